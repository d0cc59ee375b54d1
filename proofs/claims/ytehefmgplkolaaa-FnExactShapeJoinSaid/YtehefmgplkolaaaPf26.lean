import Derived.Test.YtehefmgplkolaaaPf24
import Derived.Test.YtehefmgplkolaaaPf25
namespace Go.Proofs.Ytehefmgplkolaaa.K
open Go.RowKit Go.Proofs.YtehefmgplkolaaaW.PrintWords Go.Proofs.YtehefmgplkolaaaW.PrintLast Go.Proofs.YtehefmgplkolaaaW.PrintMore
attribute [local go_sem] max2_int min2_int max_two min_two max_three min_three max_four min_four
set_option linter.unusedVariables false
set_option linter.unusedSimpArgs false
def cnF (l0:List S48) (a b t:Int):Option Bool:=(kndIn l0 a t).bind fun x=>if x=true then kndIn l0 b t else some false
def allK (n:Nat):List Int:=[0,1,2,3,4]++(List.range n).map (fun i:Nat=>(8:Int)+(i:Int))
theorem nearOut_mem {cn:Int→Option Bool} {un:Int→Int→Option Bool} {all:List Int} {t:Int}: ∀{l:List Int},nearOut cn un all l=some (some t)→t∈l
 |[],h=>by simp [nearOut] at h
 | o :: os, h => by
  simp only [nearOut] at h;obtain ⟨c,_,h⟩:=Option.bind_eq_some_iff.mp h
  cases c with
  |false=>exact List.mem_cons_of_mem _ (nearOut_mem (l:=os) (by simpa using h))
  |true=>
   rw [if_pos rfl] at h;obtain ⟨b,_,h⟩:=Option.bind_eq_some_iff.mp h
   cases b with
   |false=>exact List.mem_cons_of_mem _ (nearOut_mem (l:=os) (by simpa using h))
   |true=>simp at h;rw [h];exact List.mem_cons_self
theorem allK_succ (k:Nat):allK (k+1)=allK k++[8+(k:Int)]:=by unfold allK;rw [List.range_succ,List.map_append,←List.append_assoc];rfl
theorem allK_len (k:Nat):(allK k).length=5+k:=by unfold allK;simp;omega
theorem allK_mem {k:Nat} {t:Int} (h:t∈allK k):kv t∧t<8+(k:Int):=by
 unfold allK at h;simp only [List.mem_append,List.mem_cons,List.mem_map,List.mem_range,List.not_mem_nil,or_false] at h;unfold kv;rcases h with h|⟨i,hi,rfl⟩<;>omega
theorem heap_two (W:World) (o o':Obj):((W.alloc o).alloc o').heap[W.heap.size]? =some o∧((W.alloc o).alloc o').heap[W.heap.size+1]? =some o':=
  ⟨blk_alloc (blk_new W o) o',by simpa using blk_new (W.alloc o) o'⟩
theorem infoK:(Try.prog.info? 70).map (fun i=>(i.zero,i.size,i.bytes))=some (some .nilIface,1,16):=by kernel_rfl
theorem tj1_calls (A0:Option Addr) (c0:Nat) (l0:List S48) (a b t:Int) (r:Bool) (g p q:Nat) (w:World) (hr0:Kd.C k48 w A0 l0.length l0) (hc0:l0.length≤c0) (ha:kv a) (hb:kv b) (ht:kv t) (ht2:t≤9223372036854775807)
  (hg:w.heap[g]? =some (.cells #[.slice A0 l0.length c0] 30 (0,0))) (hp:w.heap[p]? =some (.cells #[kndV a] 70 (0,0))) (hq:w.heap[q]? =some (.cells #[kndV b] 70 (0,0))) (h:cnF l0 a b t=some r):
  Calls Try.prog 53 #[kndV t,.pointer (some ⟨g,0,none⟩),.pointer (some ⟨p,0,none⟩),.pointer (some ⟨q,0,none⟩)] w fun e w'=>e= .returned (.bool r)∧Below w.heap.size w w':=by
 have HR:=aK hr0;have HC:=aK hc0;have VA:=aK ha;have VB:=aK hb;have VT:=aK ht;have cg:=(blk_cell hg 0).trans rfl;have cp:=(blk_cell hp 0).trans rfl;obtain ⟨x,hx,h⟩:=Option.bind_eq_some_iff.mp h;have HX:=aK hx;have HQ:=aK hq;have HG:=aK hg;clear hr0 hc0 ha hb ht hx hg hp hq
 cases x with
 |false=>
  have HH:=aK (Option.some.inj h);clear h;go_enter Try.func53,Try.ntmps53
  go_wp2_with fail
  refine (impl_kindIn.calls A0 c0 l0 a t false _ HR.out HC.out VA.out VT.out ht2 HX.out).mono ?_;rintro e w2 ⟨rfl,hb2⟩;go_wp2;go_ret;exact ⟨by rw [←HH.out];rfl,hb2⟩
 |true=>
  have HH:=aK ((if_pos rfl).symm.trans h);clear h;go_enter Try.func53,Try.ntmps53
  go_wp2_with fail
  refine (impl_kindIn.calls A0 c0 l0 a t true _ HR.out HC.out VA.out VT.out ht2 HX.out).mono ?_;rintro e w2 ⟨rfl,hb2⟩;have HB2:=aK hb2;have cq:=(blk_cell (blk_below HQ.out hb2) 0).trans rfl;have cg2:=(blk_cell (blk_below HG.out hb2) 0).trans rfl;clear hb2
  go_wp2_with fail
  refine (impl_kindIn.calls A0 c0 l0 b t r _ (Kd.C_below HR.out HB2.out) HC.out VB.out VT.out ht2 HH.out).mono ?_;rintro e w3 ⟨rfl,hb3⟩;go_wp2;go_ret;exact ⟨rfl,below_step HB2.out hb3⟩
theorem tj2_calls (A0:Option Addr) (c0:Nat) (l0:List S48) (s t:Int) (r:Bool) (g:Nat) (w:World) (hr0:Kd.C k48 w A0 l0.length l0) (hc0:l0.length≤c0) (hs:kv s) (ht:kv t) (ht2:t≤9223372036854775807)
  (hg:w.heap[g]? =some (.cells #[.slice A0 l0.length c0] 30 (0,0))) (h:kndIn l0 s t=some r):
  Calls Try.prog 55 #[kndV s,kndV t,.pointer (some ⟨g,0,none⟩)] w fun e w'=>e= .returned (.bool r)∧Below w.heap.size w w':=by
 have HR:=aK hr0;have HC:=aK hc0;have VS:=aK hs;have VT:=aK ht;have cg:=(blk_cell hg 0).trans rfl;have HH:=aK h;clear hr0 hc0 hs ht hg h;go_enter Try.func55,Try.ntmps55
 go_wp2_with fail
 refine (impl_kindIn.calls A0 c0 l0 s t r _ HR.out HC.out VS.out VT.out ht2 HH.out).mono ?_;rintro e w2 ⟨rfl,hb2⟩;go_wp2;go_ret;exact ⟨rfl,hb2⟩
def impl_typeJoin.f (l0:List S48) (a1 a2:Int):Option Int:=
  if l0.length≤1000 then (if kOk l0.length a1=true∧kOk l0.length a2=true then (nearOut (cnF l0 a1 a2) (kndIn l0) (allK l0.length) (allK l0.length)).bind fun o=>some (o.getD 0) else some 0) else none
set_option maxHeartbeats 8000000 in
set_option maxRecDepth 100000 in
theorem impl_typeJoin.calls (A0 : Option Addr) (c0 : Nat) (l0 : List S48) (a1 : Int) (a2 : Int) (r : Int) (w : World) (hr0 : Kd.C k48 w A0 l0.length l0) (hc0 : l0.length ≤ c0) (h : impl_typeJoin.f l0 a1 a2 = some r) :
  Calls Try.prog 41 #[.slice A0 l0.length c0,.int .i64 a1,.int .i64 a2] w fun e w'=>e= .returned (.int .i64 r)∧Below w.heap.size w w':=by
 have HR0:=aK hr0;have HC0:=aK hc0;clear hr0 hc0
 have hl:l0.length≤1000:=by
  unfold impl_typeJoin.f at h
  split at h
  ·assumption
  ·simp at h
 have H:=aK ((if_pos hl).symm.trans h);clear h;have hmf: ∀(fn:Fn) (first cap:Array Value) (w:World),(Instr.makeFunc fn first cap).run Try.prog w= .ok (.func fn first cap) w:=fun _ _ _ _=>rfl
 by_cases k1:kOk l0.length a1=true
 ·obtain ⟨u1, v1, e1⟩ := kndV_iface a1
  have O1:=aK (show kndO l0.length a1= .iface u1 v1 from (if_pos k1).trans e1);have N1: ∀W:World,(binOp .eql 70 (.iface u1 v1) .nilIface).run Try.prog W= .ok (.bool false) W:=fun W=>by rw [←e1];exact kind_nil (kv_of_kOk k1) W
  have G1: ∀(op:BinOp) (T:TypeId) (x y:Operand) (v:Value),eqGuard op T x y (.iface u1 v1) v=pure ():=fun op T x y v=>by rw [←e1];exact guard_knd a1 op T x y v
  by_cases k2:kOk l0.length a2=true
  ·obtain ⟨u2, v2, e2⟩ := kndV_iface a2
   have O2:=aK (show kndO l0.length a2= .iface u2 v2 from (if_pos k2).trans e2);have N2: ∀W:World,(binOp .eql 70 (.iface u2 v2) .nilIface).run Try.prog W= .ok (.bool false) W:=fun W=>by rw [←e2];exact kind_nil (kv_of_kOk k2) W
   have G2: ∀(op:BinOp) (T:TypeId) (x y:Operand) (v:Value),eqGuard op T x y (.iface u2 v2) v=pure ():=fun op T x y v=>by rw [←e2];exact guard_knd a2 op T x y v
   have E1:=aK e1;have E2:=aK e2;have K1:=aK k1;have K2:=aK k2;clear e1 e2 k1 k2;go_enter Try.func41,Try.ntmps41
   go_wp2_with fail
   refine sT 12 (S:=fun w'=>w'.cell? ⟨w.heap.size,0,none⟩=some (.slice A0 l0.length c0)∧Aside0 (Below w.heap.size w w')∧Aside0 (w'.heap[w.heap.size]? =some (.cells #[.slice A0 l0.length c0] 30 (0,0)))) (ds:=[]) ⟨(by go_simp),⟨below_drew1 (below_alloc (Below.refl _ _) _)⟩,⟨blk_new _ _⟩⟩ (fun hHeld=>?_);have HW1:=hHeld.2.2;generalize (World.alloc w _).drew=W1 at hHeld HW1 ⊢;refine pS 2 17 (lA 12 4) ?_;refine pS 6 21 (lA 12 68) ?_;refine tS 0 15 (lA 12 69) rfl rfl (by kernel_rfl) hHeld (by rintro w' ⟨s0,s1,s2⟩;go_simp;with_reducible rfl) ?_;refine pS 1 16 (lA 12 71) ?_;refine tS 4 19 (lA 12 87) rfl rfl (by kernel_rfl) hHeld (by rintro w' ⟨s0,s1,s2⟩;go_simp;with_reducible rfl) ?_;refine pS 5 20 (lA 12 119) ?_;refine join_ (σ:=Nat×Nat) 2 (lA 12 1023) (fun s=>[(18,.iface u1 v1),(22,.iface u2 v2),(7,.pointer (some ⟨s.1,0,none⟩)),(8,.pointer (some ⟨s.2,0,none⟩))]) (fun s w'=>w'.heap[s.1]? =some (.cells #[.nilIface] 70 (0,0))∧w'.heap[s.2]? =some (.cells #[.nilIface] 70 (0,0))∧s.1≠s.2∧w.heap.size<s.1∧w.heap.size<s.2∧(w'.cell? ⟨w.heap.size,0,none⟩=some (.slice A0 l0.length c0)∧Aside0 (Below w.heap.size w w')∧Aside0 (w'.heap[w.heap.size]? =some (.cells #[.slice A0 l0.length c0] 30 (0,0))))) ?_ ?_;rotate_left
   ·intro hCont
    refine three_ (i:=3) (j:=8) (k:=9) (Ni:=some 18) (Nj:=some 7) (Nk:=some 8) (lA 12 127) (lA 12 375) (lA 12 631) rfl rfl rfl rfl rfl rfl (by kernel_rfl) (by decide) (by decide) (by decide) (fun K hK=>?_) (fun K hK=>?_) (fun K hK=>?_)
    ·skip
     refine gO Try.func51 #[.int .i64 (l0.length:Int),.int .i64 a1] ?_;(with_reducible refine (impl_kindOf.calls (l0.length:Int) a1 _ (by omega) (by omega)).mono ?_);rintro e w3 ⟨rfl,⟨n1,rfl⟩⟩;rw [O1.out];refine ⟨_,rfl,?_⟩;refine hK.out _ _ ⟨hHeld.1,⟨pw_below_drewN hHeld.2.1.out _⟩,⟨hHeld.2.2.out⟩⟩ (fun hHeld=>?_);clear hK K;refine nS 18 ?_;refine three_ (i:=7) (j:=8) (k:=9) (Ni:=some 22) (Nj:=some 7) (Nk:=some 8) (lA 12 255) (lA 12 383) (lA 12 639) rfl rfl rfl rfl rfl rfl (by kernel_rfl) (by decide) (by decide) (by decide) (fun K hK=>?_) (fun K hK=>?_) (fun K hK=>?_)
     ·skip
      refine gO Try.func51 #[.int .i64 (l0.length:Int),.int .i64 a2] ?_;(with_reducible refine (impl_kindOf.calls (l0.length:Int) a2 _ (by omega) (by omega)).mono ?_);rintro e w3 ⟨rfl,⟨n1,rfl⟩⟩;rw [O2.out];refine ⟨_,rfl,?_⟩;refine hK.out _ _ ⟨hHeld.1,⟨pw_below_drewN hHeld.2.1.out _⟩,⟨hHeld.2.2.out⟩⟩ (fun hHeld=>?_);clear hK K;refine nS 22 ?_;refine two_ (i:=8) (j:=9) (Ni:=some 7) (Nj:=some 8) (lA 12 511) (lA 12 767) rfl rfl rfl rfl (by kernel_rfl) (by decide) (by decide) (fun K hK=>?_) (fun K hK=>?_)
      ·skip
       refine value_ (w1:=?_) (v:=?_) (by rfl) rfl ?_ ?_;rotate_left 2
       ·go_simp
        constructor
        ·rfl
        ·rfl
       refine hK.out _ _ ⟨(pw_cell_below (below_alloc (Below.refl _ _) _) hHeld.1),⟨zz3⟩,⟨blk_alloc hHeld.2.2.out _⟩⟩ (fun hHeld=>?_);clear hK K;refine nS 7 ?_;refine one_ (i:=9) (N:=some 8) (lA 12 1023) rfl rfl (by kernel_rfl) (by decide) (fun K hK=>?_);refine value_ (w1:=?_) (v:=?_) (by rfl) rfl ?_ ?_;rotate_left 2
       ·go_simp
        constructor
        ·rfl
        ·rfl
       refine hK.out _ _ ⟨(pw_cell_below (below_alloc (Below.refl _ _) _) hHeld.1),⟨zz3⟩,⟨blk_alloc hHeld.2.2.out _⟩⟩ (fun hHeld=>?_);clear hK K;refine nS 8 ?_;exact norm_ zz7 (hCont (W1.heap.size,W1.heap.size+1) _ ⟨(heap_two W1 _ _).1,(heap_two W1 _ _).2,(by simp),zz8,zz8,hHeld⟩)
      ·skip
       refine value_ (w1:=?_) (v:=?_) (by rfl) rfl ?_ ?_;rotate_left 2
       ·go_simp
        constructor
        ·rfl
        ·rfl
       refine hK.out _ _ ⟨(pw_cell_below (below_alloc (Below.refl _ _) _) hHeld.1),⟨zz3⟩,⟨blk_alloc hHeld.2.2.out _⟩⟩ (fun hHeld=>?_);clear hK K;refine nS 8 ?_;refine one_ (i:=8) (N:=some 7) (lA 12 1023) rfl rfl (by kernel_rfl) (by decide) (fun K hK=>?_);refine value_ (w1:=?_) (v:=?_) (by rfl) rfl ?_ ?_;rotate_left 2
       ·go_simp
        constructor
        ·rfl
        ·rfl
       refine hK.out _ _ ⟨(pw_cell_below (below_alloc (Below.refl _ _) _) hHeld.1),⟨zz3⟩,⟨blk_alloc hHeld.2.2.out _⟩⟩ (fun hHeld=>?_);clear hK K;refine nS 7 ?_;exact norm_ zz7 (hCont (W1.heap.size+1,W1.heap.size) _ ⟨(heap_two W1 _ _).2,(heap_two W1 _ _).1,(by simp),zz8,zz8,hHeld⟩)
     ·skip
      refine value_ (w1:=?_) (v:=?_) (by rfl) rfl ?_ ?_;rotate_left 2
      ·go_simp
       constructor
       ·rfl
       ·rfl
      refine hK.out _ _ ⟨(pw_cell_below (below_alloc (Below.refl _ _) _) hHeld.1),⟨zz3⟩,⟨blk_alloc hHeld.2.2.out _⟩⟩ (fun hHeld=>?_);clear hK K;refine nS 7 ?_;refine two_ (i:=7) (j:=9) (Ni:=some 22) (Nj:=some 8) (lA 12 511) (lA 12 895) rfl rfl rfl rfl (by kernel_rfl) (by decide) (by decide) (fun K hK=>?_) (fun K hK=>?_)
      ·skip
       refine gO Try.func51 #[.int .i64 (l0.length:Int),.int .i64 a2] ?_;(with_reducible refine (impl_kindOf.calls (l0.length:Int) a2 _ (by omega) (by omega)).mono ?_);rintro e w3 ⟨rfl,⟨n1,rfl⟩⟩;rw [O2.out];refine ⟨_,rfl,?_⟩;refine hK.out _ _ ⟨hHeld.1,⟨pw_below_drewN hHeld.2.1.out _⟩,⟨hHeld.2.2.out⟩⟩ (fun hHeld=>?_);clear hK K;refine nS 22 ?_;refine one_ (i:=9) (N:=some 8) (lA 12 1023) rfl rfl (by kernel_rfl) (by decide) (fun K hK=>?_);refine value_ (w1:=?_) (v:=?_) (by rfl) rfl ?_ ?_;rotate_left 2
       ·go_simp
        constructor
        ·rfl
        ·rfl
       refine hK.out _ _ ⟨(pw_cell_below (below_alloc (Below.refl _ _) _) hHeld.1),⟨zz3⟩,⟨blk_alloc hHeld.2.2.out _⟩⟩ (fun hHeld=>?_);clear hK K;refine nS 8 ?_;exact norm_ zz7 (hCont (W1.heap.size,W1.heap.size+1) _ ⟨(heap_two W1 _ _).1,(heap_two W1 _ _).2,(by simp),zz8,zz8,hHeld⟩)
      ·skip
       refine value_ (w1:=?_) (v:=?_) (by rfl) rfl ?_ ?_;rotate_left 2
       ·go_simp
        constructor
        ·rfl
        ·rfl
       refine hK.out _ _ ⟨(pw_cell_below (below_alloc (Below.refl _ _) _) hHeld.1),⟨zz3⟩,⟨blk_alloc hHeld.2.2.out _⟩⟩ (fun hHeld=>?_);clear hK K;refine nS 8 ?_;refine oS 7 22 (lA 12 1023) rfl rfl (fun K hK=>?_);refine gO Try.func51 #[.int .i64 (l0.length:Int),.int .i64 a2] ?_;(with_reducible refine (impl_kindOf.calls (l0.length:Int) a2 _ (by omega) (by omega)).mono ?_);rintro e w3 ⟨rfl,⟨n1,rfl⟩⟩;rw [O2.out];refine ⟨_,rfl,?_⟩;refine hK.out _ _ ⟨hHeld.1,⟨pw_below_drewN hHeld.2.1.out _⟩,⟨hHeld.2.2.out⟩⟩ (fun hHeld=>?_);clear hK K;refine nS 22 ?_;exact norm_ zz7 (hCont (W1.heap.size,W1.heap.size+1) _ ⟨(heap_two W1 _ _).1,(heap_two W1 _ _).2,(by simp),zz8,zz8,hHeld⟩)
     ·skip
      refine value_ (w1:=?_) (v:=?_) (by rfl) rfl ?_ ?_;rotate_left 2
      ·go_simp
       constructor
       ·rfl
       ·rfl
      refine hK.out _ _ ⟨(pw_cell_below (below_alloc (Below.refl _ _) _) hHeld.1),⟨zz3⟩,⟨blk_alloc hHeld.2.2.out _⟩⟩ (fun hHeld=>?_);clear hK K;refine nS 8 ?_;refine two_ (i:=7) (j:=8) (Ni:=some 22) (Nj:=some 7) (lA 12 767) (lA 12 895) rfl rfl rfl rfl (by kernel_rfl) (by decide) (by decide) (fun K hK=>?_) (fun K hK=>?_)
      ·skip
       refine gO Try.func51 #[.int .i64 (l0.length:Int),.int .i64 a2] ?_;(with_reducible refine (impl_kindOf.calls (l0.length:Int) a2 _ (by omega) (by omega)).mono ?_);rintro e w3 ⟨rfl,⟨n1,rfl⟩⟩;rw [O2.out];refine ⟨_,rfl,?_⟩;refine hK.out _ _ ⟨hHeld.1,⟨pw_below_drewN hHeld.2.1.out _⟩,⟨hHeld.2.2.out⟩⟩ (fun hHeld=>?_);clear hK K;refine nS 22 ?_;refine one_ (i:=8) (N:=some 7) (lA 12 1023) rfl rfl (by kernel_rfl) (by decide) (fun K hK=>?_);refine value_ (w1:=?_) (v:=?_) (by rfl) rfl ?_ ?_;rotate_left 2
       ·go_simp
        constructor
        ·rfl
        ·rfl
       refine hK.out _ _ ⟨(pw_cell_below (below_alloc (Below.refl _ _) _) hHeld.1),⟨zz3⟩,⟨blk_alloc hHeld.2.2.out _⟩⟩ (fun hHeld=>?_);clear hK K;refine nS 7 ?_;exact norm_ zz7 (hCont (W1.heap.size+1,W1.heap.size) _ ⟨(heap_two W1 _ _).2,(heap_two W1 _ _).1,(by simp),zz8,zz8,hHeld⟩)
      ·skip
       refine value_ (w1:=?_) (v:=?_) (by rfl) rfl ?_ ?_;rotate_left 2
       ·go_simp
        constructor
        ·rfl
        ·rfl
       refine hK.out _ _ ⟨(pw_cell_below (below_alloc (Below.refl _ _) _) hHeld.1),⟨zz3⟩,⟨blk_alloc hHeld.2.2.out _⟩⟩ (fun hHeld=>?_);clear hK K;refine nS 7 ?_;refine oS 7 22 (lA 12 1023) rfl rfl (fun K hK=>?_);refine gO Try.func51 #[.int .i64 (l0.length:Int),.int .i64 a2] ?_;(with_reducible refine (impl_kindOf.calls (l0.length:Int) a2 _ (by omega) (by omega)).mono ?_);rintro e w3 ⟨rfl,⟨n1,rfl⟩⟩;rw [O2.out];refine ⟨_,rfl,?_⟩;refine hK.out _ _ ⟨hHeld.1,⟨pw_below_drewN hHeld.2.1.out _⟩,⟨hHeld.2.2.out⟩⟩ (fun hHeld=>?_);clear hK K;refine nS 22 ?_;exact norm_ zz7 (hCont (W1.heap.size+1,W1.heap.size) _ ⟨(heap_two W1 _ _).2,(heap_two W1 _ _).1,(by simp),zz8,zz8,hHeld⟩)
    ·skip
     refine value_ (w1:=?_) (v:=?_) (by rfl) rfl ?_ ?_;rotate_left 2
     ·go_simp
      constructor
      ·rfl
      ·rfl
     refine hK.out _ _ ⟨(pw_cell_below (below_alloc (Below.refl _ _) _) hHeld.1),⟨zz3⟩,⟨blk_alloc hHeld.2.2.out _⟩⟩ (fun hHeld=>?_);clear hK K;refine nS 7 ?_;refine two_ (i:=3) (j:=9) (Ni:=some 18) (Nj:=some 8) (lA 12 383) (lA 12 887) rfl rfl rfl rfl (by kernel_rfl) (by decide) (by decide) (fun K hK=>?_) (fun K hK=>?_)
     ·skip
      refine gO Try.func51 #[.int .i64 (l0.length:Int),.int .i64 a1] ?_;(with_reducible refine (impl_kindOf.calls (l0.length:Int) a1 _ (by omega) (by omega)).mono ?_);rintro e w3 ⟨rfl,⟨n1,rfl⟩⟩;rw [O1.out];refine ⟨_,rfl,?_⟩;refine hK.out _ _ ⟨hHeld.1,⟨pw_below_drewN hHeld.2.1.out _⟩,⟨hHeld.2.2.out⟩⟩ (fun hHeld=>?_);clear hK K;refine nS 18 ?_;refine two_ (i:=7) (j:=9) (Ni:=some 22) (Nj:=some 8) (lA 12 511) (lA 12 895) rfl rfl rfl rfl (by kernel_rfl) (by decide) (by decide) (fun K hK=>?_) (fun K hK=>?_)
      ·skip
       refine gO Try.func51 #[.int .i64 (l0.length:Int),.int .i64 a2] ?_;(with_reducible refine (impl_kindOf.calls (l0.length:Int) a2 _ (by omega) (by omega)).mono ?_);rintro e w3 ⟨rfl,⟨n1,rfl⟩⟩;rw [O2.out];refine ⟨_,rfl,?_⟩;refine hK.out _ _ ⟨hHeld.1,⟨pw_below_drewN hHeld.2.1.out _⟩,⟨hHeld.2.2.out⟩⟩ (fun hHeld=>?_);clear hK K;refine nS 22 ?_;refine one_ (i:=9) (N:=some 8) (lA 12 1023) rfl rfl (by kernel_rfl) (by decide) (fun K hK=>?_);refine value_ (w1:=?_) (v:=?_) (by rfl) rfl ?_ ?_;rotate_left 2
       ·go_simp
        constructor
        ·rfl
        ·rfl
       refine hK.out _ _ ⟨(pw_cell_below (below_alloc (Below.refl _ _) _) hHeld.1),⟨zz3⟩,⟨blk_alloc hHeld.2.2.out _⟩⟩ (fun hHeld=>?_);clear hK K;refine nS 8 ?_;exact norm_ zz7 (hCont (W1.heap.size,W1.heap.size+1) _ ⟨(heap_two W1 _ _).1,(heap_two W1 _ _).2,(by simp),zz8,zz8,hHeld⟩)
      ·skip
       refine value_ (w1:=?_) (v:=?_) (by rfl) rfl ?_ ?_;rotate_left 2
       ·go_simp
        constructor
        ·rfl
        ·rfl
       refine hK.out _ _ ⟨(pw_cell_below (below_alloc (Below.refl _ _) _) hHeld.1),⟨zz3⟩,⟨blk_alloc hHeld.2.2.out _⟩⟩ (fun hHeld=>?_);clear hK K;refine nS 8 ?_;refine oS 7 22 (lA 12 1023) rfl rfl (fun K hK=>?_);refine gO Try.func51 #[.int .i64 (l0.length:Int),.int .i64 a2] ?_;(with_reducible refine (impl_kindOf.calls (l0.length:Int) a2 _ (by omega) (by omega)).mono ?_);rintro e w3 ⟨rfl,⟨n1,rfl⟩⟩;rw [O2.out];refine ⟨_,rfl,?_⟩;refine hK.out _ _ ⟨hHeld.1,⟨pw_below_drewN hHeld.2.1.out _⟩,⟨hHeld.2.2.out⟩⟩ (fun hHeld=>?_);clear hK K;refine nS 22 ?_;exact norm_ zz7 (hCont (W1.heap.size,W1.heap.size+1) _ ⟨(heap_two W1 _ _).1,(heap_two W1 _ _).2,(by simp),zz8,zz8,hHeld⟩)
     ·skip
      refine value_ (w1:=?_) (v:=?_) (by rfl) rfl ?_ ?_;rotate_left 2
      ·go_simp
       constructor
       ·rfl
       ·rfl
      refine hK.out _ _ ⟨(pw_cell_below (below_alloc (Below.refl _ _) _) hHeld.1),⟨zz3⟩,⟨blk_alloc hHeld.2.2.out _⟩⟩ (fun hHeld=>?_);clear hK K;refine nS 8 ?_;refine oS 3 18 (lA 12 895) rfl rfl (fun K hK=>?_);refine gO Try.func51 #[.int .i64 (l0.length:Int),.int .i64 a1] ?_;(with_reducible refine (impl_kindOf.calls (l0.length:Int) a1 _ (by omega) (by omega)).mono ?_);rintro e w3 ⟨rfl,⟨n1,rfl⟩⟩;rw [O1.out];refine ⟨_,rfl,?_⟩;refine hK.out _ _ ⟨hHeld.1,⟨pw_below_drewN hHeld.2.1.out _⟩,⟨hHeld.2.2.out⟩⟩ (fun hHeld=>?_);clear hK K;refine nS 18 ?_;refine oS 7 22 (lA 12 1023) rfl rfl (fun K hK=>?_);refine gO Try.func51 #[.int .i64 (l0.length:Int),.int .i64 a2] ?_;(with_reducible refine (impl_kindOf.calls (l0.length:Int) a2 _ (by omega) (by omega)).mono ?_);rintro e w3 ⟨rfl,⟨n1,rfl⟩⟩;rw [O2.out];refine ⟨_,rfl,?_⟩;refine hK.out _ _ ⟨hHeld.1,⟨pw_below_drewN hHeld.2.1.out _⟩,⟨hHeld.2.2.out⟩⟩ (fun hHeld=>?_);clear hK K;refine nS 22 ?_;exact norm_ zz7 (hCont (W1.heap.size,W1.heap.size+1) _ ⟨(heap_two W1 _ _).1,(heap_two W1 _ _).2,(by simp),zz8,zz8,hHeld⟩)
    ·skip
     refine value_ (w1:=?_) (v:=?_) (by rfl) rfl ?_ ?_;rotate_left 2
     ·go_simp
      constructor
      ·rfl
      ·rfl
     refine hK.out _ _ ⟨(pw_cell_below (below_alloc (Below.refl _ _) _) hHeld.1),⟨zz3⟩,⟨blk_alloc hHeld.2.2.out _⟩⟩ (fun hHeld=>?_);clear hK K;refine nS 8 ?_;refine two_ (i:=3) (j:=8) (Ni:=some 18) (Nj:=some 7) (lA 12 639) (lA 12 887) rfl rfl rfl rfl (by kernel_rfl) (by decide) (by decide) (fun K hK=>?_) (fun K hK=>?_)
     ·skip
      refine gO Try.func51 #[.int .i64 (l0.length:Int),.int .i64 a1] ?_;(with_reducible refine (impl_kindOf.calls (l0.length:Int) a1 _ (by omega) (by omega)).mono ?_);rintro e w3 ⟨rfl,⟨n1,rfl⟩⟩;rw [O1.out];refine ⟨_,rfl,?_⟩;refine hK.out _ _ ⟨hHeld.1,⟨pw_below_drewN hHeld.2.1.out _⟩,⟨hHeld.2.2.out⟩⟩ (fun hHeld=>?_);clear hK K;refine nS 18 ?_;refine two_ (i:=7) (j:=8) (Ni:=some 22) (Nj:=some 7) (lA 12 767) (lA 12 895) rfl rfl rfl rfl (by kernel_rfl) (by decide) (by decide) (fun K hK=>?_) (fun K hK=>?_)
      ·skip
       refine gO Try.func51 #[.int .i64 (l0.length:Int),.int .i64 a2] ?_;(with_reducible refine (impl_kindOf.calls (l0.length:Int) a2 _ (by omega) (by omega)).mono ?_);rintro e w3 ⟨rfl,⟨n1,rfl⟩⟩;rw [O2.out];refine ⟨_,rfl,?_⟩;refine hK.out _ _ ⟨hHeld.1,⟨pw_below_drewN hHeld.2.1.out _⟩,⟨hHeld.2.2.out⟩⟩ (fun hHeld=>?_);clear hK K;refine nS 22 ?_;refine one_ (i:=8) (N:=some 7) (lA 12 1023) rfl rfl (by kernel_rfl) (by decide) (fun K hK=>?_);refine value_ (w1:=?_) (v:=?_) (by rfl) rfl ?_ ?_;rotate_left 2
       ·go_simp
        constructor
        ·rfl
        ·rfl
       refine hK.out _ _ ⟨(pw_cell_below (below_alloc (Below.refl _ _) _) hHeld.1),⟨zz3⟩,⟨blk_alloc hHeld.2.2.out _⟩⟩ (fun hHeld=>?_);clear hK K;refine nS 7 ?_;exact norm_ zz7 (hCont (W1.heap.size+1,W1.heap.size) _ ⟨(heap_two W1 _ _).2,(heap_two W1 _ _).1,(by simp),zz8,zz8,hHeld⟩)
      ·skip
       refine value_ (w1:=?_) (v:=?_) (by rfl) rfl ?_ ?_;rotate_left 2
       ·go_simp
        constructor
        ·rfl
        ·rfl
       refine hK.out _ _ ⟨(pw_cell_below (below_alloc (Below.refl _ _) _) hHeld.1),⟨zz3⟩,⟨blk_alloc hHeld.2.2.out _⟩⟩ (fun hHeld=>?_);clear hK K;refine nS 7 ?_;refine oS 7 22 (lA 12 1023) rfl rfl (fun K hK=>?_);refine gO Try.func51 #[.int .i64 (l0.length:Int),.int .i64 a2] ?_;(with_reducible refine (impl_kindOf.calls (l0.length:Int) a2 _ (by omega) (by omega)).mono ?_);rintro e w3 ⟨rfl,⟨n1,rfl⟩⟩;rw [O2.out];refine ⟨_,rfl,?_⟩;refine hK.out _ _ ⟨hHeld.1,⟨pw_below_drewN hHeld.2.1.out _⟩,⟨hHeld.2.2.out⟩⟩ (fun hHeld=>?_);clear hK K;refine nS 22 ?_;exact norm_ zz7 (hCont (W1.heap.size+1,W1.heap.size) _ ⟨(heap_two W1 _ _).2,(heap_two W1 _ _).1,(by simp),zz8,zz8,hHeld⟩)
     ·skip
      refine value_ (w1:=?_) (v:=?_) (by rfl) rfl ?_ ?_;rotate_left 2
      ·go_simp
       constructor
       ·rfl
       ·rfl
      refine hK.out _ _ ⟨(pw_cell_below (below_alloc (Below.refl _ _) _) hHeld.1),⟨zz3⟩,⟨blk_alloc hHeld.2.2.out _⟩⟩ (fun hHeld=>?_);clear hK K;refine nS 7 ?_;refine oS 3 18 (lA 12 895) rfl rfl (fun K hK=>?_);refine gO Try.func51 #[.int .i64 (l0.length:Int),.int .i64 a1] ?_;(with_reducible refine (impl_kindOf.calls (l0.length:Int) a1 _ (by omega) (by omega)).mono ?_);rintro e w3 ⟨rfl,⟨n1,rfl⟩⟩;rw [O1.out];refine ⟨_,rfl,?_⟩;refine hK.out _ _ ⟨hHeld.1,⟨pw_below_drewN hHeld.2.1.out _⟩,⟨hHeld.2.2.out⟩⟩ (fun hHeld=>?_);clear hK K;refine nS 18 ?_;refine oS 7 22 (lA 12 1023) rfl rfl (fun K hK=>?_);refine gO Try.func51 #[.int .i64 (l0.length:Int),.int .i64 a2] ?_;(with_reducible refine (impl_kindOf.calls (l0.length:Int) a2 _ (by omega) (by omega)).mono ?_);rintro e w3 ⟨rfl,⟨n1,rfl⟩⟩;rw [O2.out];refine ⟨_,rfl,?_⟩;refine hK.out _ _ ⟨hHeld.1,⟨pw_below_drewN hHeld.2.1.out _⟩,⟨hHeld.2.2.out⟩⟩ (fun hHeld=>?_);clear hK K;refine nS 22 ?_;exact norm_ zz7 (hCont (W1.heap.size+1,W1.heap.size) _ ⟨(heap_two W1 _ _).2,(heap_two W1 _ _).1,(by simp),zz8,zz8,hHeld⟩)
   rintro ⟨p7,p8⟩ w2 ⟨hb7,hb8,hne,hg7,hg8,hHeld⟩;have cb7:=(blk_cell hb7 0).trans rfl;have fb7:=blk_frozen hb7 0;have cb8:=(blk_cell hb8 0).trans rfl;have fb8:=blk_frozen hb8 0;have HB7:=aK hb7;have HB8:=aK hb8;clear hb7 hb8;refine norm_ (a':=?_) ?_ ?_;rotate_left
   ·simp only [putAll, Act.put, List.setIfInBounds_toArray, List.set_cons_zero, List.set_cons_succ]
    rfl
   refine one_ (i:=10) (N:=none) (lA 12 2047) rfl rfl (by kernel_rfl) (by decide) (fun K hK=>?_);refine skip_ (w1:=?_) (by rfl) rfl ?_ ?_;rotate_left
   ·go_simp
    rfl
   refine hK.out _ _ ⟨((blk_cell (blk_far hHeld.2.2.out (by show w.heap.size≠p7;omega) _) 0).trans rfl),⟨below_set hHeld.2.1.out (by omega)⟩,⟨blk_far hHeld.2.2.out (by show w.heap.size≠p7;omega) _⟩⟩ (fun hHeld=>?_);clear hK K;refine one_ (i:=11) (N:=none) (lA 12 4095) rfl rfl (by kernel_rfl) (by decide) (fun K hK=>?_);refine skip_ (w1:=?_) (by rfl) rfl ?_ ?_;rotate_left
   ·go_simp
    rfl
   refine hK.out _ _ ⟨((blk_cell (blk_far hHeld.2.2.out (by show w.heap.size≠p8;omega) _) 0).trans rfl),⟨below_set hHeld.2.1.out (by omega)⟩,⟨blk_far hHeld.2.2.out (by show w.heap.size≠p8;omega) _⟩⟩ (fun hHeld=>?_);clear hK K;refine done_ (by kernel_rfl) ?_;have X7:Aside0 (((w2.setCell ⟨p7,0,none⟩ (.iface u1 v1)).setCell ⟨p8,0,none⟩ (.iface u2 v2)).heap[p7]? =some (.cells #[.iface u1 v1] 70 (0,0))):=⟨blk_far (blk_put HB7.out 0 (.iface u1 v1) rfl) hne _⟩
   have X8:Aside0 (((w2.setCell ⟨p7,0,none⟩ (.iface u1 v1)).setCell ⟨p8,0,none⟩ (.iface u2 v2)).heap[p8]? =some (.cells #[.iface u2 v2] 70 (0,0))):=⟨blk_put (blk_far HB8.out (fun z=>hne z.symm) _) 0 (.iface u2 v2) rfl⟩
   clear cb7 fb7 cb8 fb8 HB7 HB8;generalize ((w2.setCell ⟨p7,0,none⟩ (.iface u1 v1)).setCell ⟨p8,0,none⟩ (.iface u2 v2))=W3 at X7 X8 hHeld ⊢;obtain ⟨cg,HB3,HG3⟩:=hHeld;have c7:=(blk_cell X7.out 0).trans rfl;have c8:=(blk_cell X8.out 0).trans rfl;have hz3:=blk_lt HG3.out;go_wp2
   go_loopw [9,42] (fun v i wr=> ∃k:Nat,k≤l0.length∧i= .int .i64 k∧Aside0 (Kd.R kKnd 70 wr W3.heap.size (fun _=>True) v (allK k))∧Aside0 (Below W3.heap.size W3 wr)) (fun _ i _=>l0.length - (intOf i).toNat)
   case atStart=>
    refine ⟨0,Nat.zero_le _,rfl,⟨?_⟩,⟨below_alloc (Below.refl _ _) _⟩⟩;exact Kd.R_of_own (enc:=kndV) (own_lit_of (enc:=kndV) W3 W3.heap.size 70 [0,1,2,3,4] (Nat.le_refl _) (by simp)) (fun _ _=>trivial)
   case round=>
    obtain ⟨k,hk,rfl,HO,HB4⟩:=hrel;by_cases hlt:k<l0.length
    ·have hz4 := HB4.out.size
     have HL5:=aK (allK_len k)
     go_wp2_with ((with_reducible refine gate_builtin (b:= .append) (xs:= #[.tmp 45,.tmp 49]) rfl ?_);at_builtin;refine Kd.R_append kKnd (w0:=W3) W3.heap.size rfl (.tmp 45) (.tmp 49) 80 70 .nilIface 16 rfl Try.underlying80 infoK rfl (by decide) (by omega) u9 (allK k) (8+(k:Int)) [.iface 77 (.agg #[.int .i64 (k:Int)])] (fun _=>True) (fun _=>False) rfl rfl ?aP (fun _ hk=>hk.elim) ?aF ?aO ?aB ?aS ?aL ?_)
     case aP=>show _=[kndV (8+(k:Int))];rw [kndV_cls (by omega),show (8+(k:Int) - 8)=(k:Int) from by omega]
     case aF=>exact fun _ _=>trivial
     case aO=>exact HO.out
     case aB=>exact HB4.out
     case aS=>exact hz4
     case aL=>rw [HL5.out];omega
     intro v1 w4 HO5 HB5 _ _;have HO6:=aK HO5;have HB6:=aK HB5;clear HO5 HB5 HO HB4 hz4;go_wp2
     go_roundw
     case rel=>exact ⟨k+1,by omega,by go_num,⟨by rw [allK_succ];exact HO6.out⟩,HB6⟩
     case measure=>simp [intOf];omega
    ·obtain rfl : k = l0.length := by omega
     obtain ⟨A4,c4,rfl,hc4,HC4⟩:=Kd.R_reads HO.out;have HR4:=aK HC4;have HL4:=aK hc4;clear HO HC4 hc4 hlt hk;have hH2:=(if_pos ⟨K1.out,K2.out⟩).symm.trans H.out;obtain ⟨o,ho,hr⟩:=Option.bind_eq_some_iff.mp hH2;have HN:=aK ho;have HRR:=aK (Option.some.inj hr);have HZ:=aK (show (allK l0.length).length≤1005 by rw [allK_len];omega);clear hH2 ho hr H
     go_wp2_with fail
     refine (nearest_calls (.pointer (some ⟨w.heap.size,0,none⟩)) (.pointer (some ⟨p7,0,none⟩)) (.pointer (some ⟨p8,0,none⟩)) (cnF l0 a1 a2) (kndIn l0) A4 c4 (allK l0.length) o _ HR4.out HL4.out ?HL ?H1 ?H2 HN.out).mono ?_
     case HL=>exact HZ.out
     case H1=>
      intro t w5 b hm hb5 hcn;have hm2:=allK_mem hm;refine tj1_calls A0 c0 l0 a1 a2 t b _ _ _ _ (Kd.C_below HR0.out (below_step (below_step HB3.out HB4.out) hb5)) HC0.out (kv_of_kOk K1.out) (kv_of_kOk K2.out) hm2.1 (by omega) ?_ ?_ ?_ hcn
      ·exact blk_below (blk_below HG3.out HB4.out) hb5
      ·rw [E1.out];exact blk_below (blk_below X7.out HB4.out) hb5
      ·rw [E2.out];exact blk_below (blk_below X8.out HB4.out) hb5
     case H2=>
      intro s t w5 b hs hm hb5 hcn;have hs2:=allK_mem hs;have hm2:=allK_mem hm;refine tj2_calls A0 c0 l0 s t b _ _ (Kd.C_below HR0.out (below_step (below_step HB3.out HB4.out) hb5)) HC0.out hs2.1 hm2.1 (by omega) ?_ hcn;exact blk_below (blk_below HG3.out HB4.out) hb5
     rintro e w6 ⟨rfl,hb6⟩;have HB6:=aK (below_step (below_step HB3.out HB4.out) hb6);clear hb6
     cases o with
     |none=>
      go_wp2;go_ret;exact ⟨by rw [←HRR.out];rfl,HB6.out⟩
     | some t =>
      have hm:=allK_mem (nearOut_mem HN.out);obtain ⟨hv,ht2⟩:=hm;clear HN;rcases kv_cases hv with rfl|rfl|rfl|rfl|rfl|h8
      ·have e0 : kndV 0 = .iface 78 (.agg #[]) := rfl
       have mt : ∀ W : World, (method 206 78 (.agg #[]) "loop.example/entail/impl.number").run Try.prog W = .ok (83, .agg #[]) W := fun W => by kernel_rfl
       have HR9:=HRR.out;clear HRR;subst HR9;clear E1 E2 K1 K2 O1 O2 N1 N2 G1 G2
       go_wp2_with fail
       go_in
       go_wp2;go_ret;exact ⟨(by first|rfl|(show Ending.returned (.int .i64 (8+(t - 8)))= .returned (.int .i64 t);rw [show 8+(t - 8)=t from by omega])),(by repeat (first|exact HB6.out|apply below_alloc))⟩
      ·have e0 : kndV 1 = .iface 73 (.agg #[]) := rfl
       have mt : ∀ W : World, (method 206 73 (.agg #[]) "loop.example/entail/impl.number").run Try.prog W = .ok (80, .agg #[]) W := fun W => by kernel_rfl
       have HR9:=HRR.out;clear HRR;subst HR9;clear E1 E2 K1 K2 O1 O2 N1 N2 G1 G2
       go_wp2_with fail
       go_in
       go_wp2;go_ret;exact ⟨(by first|rfl|(show Ending.returned (.int .i64 (8+(t - 8)))= .returned (.int .i64 t);rw [show 8+(t - 8)=t from by omega])),(by repeat (first|exact HB6.out|apply below_alloc))⟩
      ·have e0 : kndV 2 = .iface 79 (.agg #[]) := rfl
       have mt : ∀ W : World, (method 206 79 (.agg #[]) "loop.example/entail/impl.number").run Try.prog W = .ok (84, .agg #[]) W := fun W => by kernel_rfl
       have HR9:=HRR.out;clear HRR;subst HR9;clear E1 E2 K1 K2 O1 O2 N1 N2 G1 G2
       go_wp2_with fail
       go_in
       go_wp2;go_ret;exact ⟨(by first|rfl|(show Ending.returned (.int .i64 (8+(t - 8)))= .returned (.int .i64 t);rw [show 8+(t - 8)=t from by omega])),(by repeat (first|exact HB6.out|apply below_alloc))⟩
      ·have e0 : kndV 3 = .iface 75 (.agg #[.bool false]) := rfl
       have mt : ∀ W : World, (method 206 75 (.agg #[.bool false]) "loop.example/entail/impl.number").run Try.prog W = .ok (81, .agg #[.bool false]) W := fun W => by kernel_rfl
       have HR9:=HRR.out;clear HRR;subst HR9;clear E1 E2 K1 K2 O1 O2 N1 N2 G1 G2
       go_wp2_with fail
       go_in
       go_wp2;go_ret;exact ⟨(by first|rfl|(show Ending.returned (.int .i64 (8+(t - 8)))= .returned (.int .i64 t);rw [show 8+(t - 8)=t from by omega])),(by repeat (first|exact HB6.out|apply below_alloc))⟩
      ·have e0 : kndV 4 = .iface 75 (.agg #[.bool true]) := rfl
       have mt : ∀ W : World, (method 206 75 (.agg #[.bool true]) "loop.example/entail/impl.number").run Try.prog W = .ok (81, .agg #[.bool true]) W := fun W => by kernel_rfl
       have HR9:=HRR.out;clear HRR;subst HR9;clear E1 E2 K1 K2 O1 O2 N1 N2 G1 G2
       go_wp2_with fail
       go_in
       go_wp2;go_ret;exact ⟨(by first|rfl|(show Ending.returned (.int .i64 (8+(t - 8)))= .returned (.int .i64 t);rw [show 8+(t - 8)=t from by omega])),(by repeat (first|exact HB6.out|apply below_alloc))⟩
      ·have e0 : kndV t = .iface 77 (.agg #[.int .i64 (t - 8)]) := kndV_cls h8
       have mt : ∀ W : World, (method 206 77 (.agg #[.int .i64 (t - 8)]) "loop.example/entail/impl.number").run Try.prog W = .ok (82, .agg #[.int .i64 (t - 8)]) W := fun W => by kernel_rfl
       have HR9:=HRR.out;clear HRR;subst HR9;clear E1 E2 K1 K2 O1 O2 N1 N2 G1 G2
       go_wp2_with fail
       go_in
       go_wp2;go_ret;exact ⟨(by first|rfl|(show Ending.returned (.int .i64 (8+(t - 8)))= .returned (.int .i64 t);rw [show 8+(t - 8)=t from by omega])),(by repeat (first|exact HB6.out|apply below_alloc))⟩
  ·have O2 := aK (show kndO l0.length a2 = .nilIface from if_neg k2)
   have N2: ∀W:World,(binOp .eql 70 .nilIface .nilIface).run Try.prog W= .ok (.bool true) W:=nil_eql
   have G2:=guard_nil;have E1:=aK e1;clear e1 k1;have hx:Aside0 (some 0=some r):=⟨by rw [←H.out,if_neg (by rw [Bool.not_eq_true _ |>.mp k2];simp)]⟩
   clear H;go_enter Try.func41,Try.ntmps41
   go_wp2_with fail
   refine sT 12 (S:=fun w'=>w'.cell? ⟨w.heap.size,0,none⟩=some (.slice A0 l0.length c0)∧Aside0 (Below w.heap.size w w')∧Aside0 (w'.heap[w.heap.size]? =some (.cells #[.slice A0 l0.length c0] 30 (0,0)))) (ds:=[]) ⟨(by go_simp),⟨below_drew1 (below_alloc (Below.refl _ _) _)⟩,⟨blk_new _ _⟩⟩ (fun hHeld=>?_);have HW1:=hHeld.2.2;generalize (World.alloc w _).drew=W1 at hHeld HW1 ⊢;refine pS 2 17 (lA 12 4) ?_;refine pS 6 21 (lA 12 68) ?_;refine tS 0 15 (lA 12 69) rfl rfl (by kernel_rfl) hHeld (by rintro w' ⟨s0,s1,s2⟩;go_simp;with_reducible rfl) ?_;refine pS 1 16 (lA 12 71) ?_;refine tS 4 19 (lA 12 87) rfl rfl (by kernel_rfl) hHeld (by rintro w' ⟨s0,s1,s2⟩;go_simp;with_reducible rfl) ?_;refine pS 5 20 (lA 12 119) ?_;refine join_ (σ:=Nat×Nat) 2 (lA 12 1023) (fun s=>[(18,.iface u1 v1),(22,.nilIface),(7,.pointer (some ⟨s.1,0,none⟩)),(8,.pointer (some ⟨s.2,0,none⟩))]) (fun s w'=>w'.heap[s.1]? =some (.cells #[.nilIface] 70 (0,0))∧w'.heap[s.2]? =some (.cells #[.nilIface] 70 (0,0))∧s.1≠s.2∧w.heap.size<s.1∧w.heap.size<s.2∧(w'.cell? ⟨w.heap.size,0,none⟩=some (.slice A0 l0.length c0)∧Aside0 (Below w.heap.size w w')∧Aside0 (w'.heap[w.heap.size]? =some (.cells #[.slice A0 l0.length c0] 30 (0,0))))) ?_ ?_;rotate_left
   ·intro hCont
    refine three_ (i:=3) (j:=8) (k:=9) (Ni:=some 18) (Nj:=some 7) (Nk:=some 8) (lA 12 127) (lA 12 375) (lA 12 631) rfl rfl rfl rfl rfl rfl (by kernel_rfl) (by decide) (by decide) (by decide) (fun K hK=>?_) (fun K hK=>?_) (fun K hK=>?_)
    ·skip
     refine gO Try.func51 #[.int .i64 (l0.length:Int),.int .i64 a1] ?_;(with_reducible refine (impl_kindOf.calls (l0.length:Int) a1 _ (by omega) (by omega)).mono ?_);rintro e w3 ⟨rfl,⟨n1,rfl⟩⟩;rw [O1.out];refine ⟨_,rfl,?_⟩;refine hK.out _ _ ⟨hHeld.1,⟨pw_below_drewN hHeld.2.1.out _⟩,⟨hHeld.2.2.out⟩⟩ (fun hHeld=>?_);clear hK K;refine nS 18 ?_;refine three_ (i:=7) (j:=8) (k:=9) (Ni:=some 22) (Nj:=some 7) (Nk:=some 8) (lA 12 255) (lA 12 383) (lA 12 639) rfl rfl rfl rfl rfl rfl (by kernel_rfl) (by decide) (by decide) (by decide) (fun K hK=>?_) (fun K hK=>?_) (fun K hK=>?_)
     ·skip
      refine gO Try.func51 #[.int .i64 (l0.length:Int),.int .i64 a2] ?_;(with_reducible refine (impl_kindOf.calls (l0.length:Int) a2 _ (by omega) (by omega)).mono ?_);rintro e w3 ⟨rfl,⟨n1,rfl⟩⟩;rw [O2.out];refine ⟨_,rfl,?_⟩;refine hK.out _ _ ⟨hHeld.1,⟨pw_below_drewN hHeld.2.1.out _⟩,⟨hHeld.2.2.out⟩⟩ (fun hHeld=>?_);clear hK K;refine nS 22 ?_;refine two_ (i:=8) (j:=9) (Ni:=some 7) (Nj:=some 8) (lA 12 511) (lA 12 767) rfl rfl rfl rfl (by kernel_rfl) (by decide) (by decide) (fun K hK=>?_) (fun K hK=>?_)
      ·skip
       refine value_ (w1:=?_) (v:=?_) (by rfl) rfl ?_ ?_;rotate_left 2
       ·go_simp
        constructor
        ·rfl
        ·rfl
       refine hK.out _ _ ⟨(pw_cell_below (below_alloc (Below.refl _ _) _) hHeld.1),⟨zz3⟩,⟨blk_alloc hHeld.2.2.out _⟩⟩ (fun hHeld=>?_);clear hK K;refine nS 7 ?_;refine one_ (i:=9) (N:=some 8) (lA 12 1023) rfl rfl (by kernel_rfl) (by decide) (fun K hK=>?_);refine value_ (w1:=?_) (v:=?_) (by rfl) rfl ?_ ?_;rotate_left 2
       ·go_simp
        constructor
        ·rfl
        ·rfl
       refine hK.out _ _ ⟨(pw_cell_below (below_alloc (Below.refl _ _) _) hHeld.1),⟨zz3⟩,⟨blk_alloc hHeld.2.2.out _⟩⟩ (fun hHeld=>?_);clear hK K;refine nS 8 ?_;exact norm_ zz7 (hCont (W1.heap.size,W1.heap.size+1) _ ⟨(heap_two W1 _ _).1,(heap_two W1 _ _).2,(by simp),zz8,zz8,hHeld⟩)
      ·skip
       refine value_ (w1:=?_) (v:=?_) (by rfl) rfl ?_ ?_;rotate_left 2
       ·go_simp
        constructor
        ·rfl
        ·rfl
       refine hK.out _ _ ⟨(pw_cell_below (below_alloc (Below.refl _ _) _) hHeld.1),⟨zz3⟩,⟨blk_alloc hHeld.2.2.out _⟩⟩ (fun hHeld=>?_);clear hK K;refine nS 8 ?_;refine one_ (i:=8) (N:=some 7) (lA 12 1023) rfl rfl (by kernel_rfl) (by decide) (fun K hK=>?_);refine value_ (w1:=?_) (v:=?_) (by rfl) rfl ?_ ?_;rotate_left 2
       ·go_simp
        constructor
        ·rfl
        ·rfl
       refine hK.out _ _ ⟨(pw_cell_below (below_alloc (Below.refl _ _) _) hHeld.1),⟨zz3⟩,⟨blk_alloc hHeld.2.2.out _⟩⟩ (fun hHeld=>?_);clear hK K;refine nS 7 ?_;exact norm_ zz7 (hCont (W1.heap.size+1,W1.heap.size) _ ⟨(heap_two W1 _ _).2,(heap_two W1 _ _).1,(by simp),zz8,zz8,hHeld⟩)
     ·skip
      refine value_ (w1:=?_) (v:=?_) (by rfl) rfl ?_ ?_;rotate_left 2
      ·go_simp
       constructor
       ·rfl
       ·rfl
      refine hK.out _ _ ⟨(pw_cell_below (below_alloc (Below.refl _ _) _) hHeld.1),⟨zz3⟩,⟨blk_alloc hHeld.2.2.out _⟩⟩ (fun hHeld=>?_);clear hK K;refine nS 7 ?_;refine two_ (i:=7) (j:=9) (Ni:=some 22) (Nj:=some 8) (lA 12 511) (lA 12 895) rfl rfl rfl rfl (by kernel_rfl) (by decide) (by decide) (fun K hK=>?_) (fun K hK=>?_)
      ·skip
       refine gO Try.func51 #[.int .i64 (l0.length:Int),.int .i64 a2] ?_;(with_reducible refine (impl_kindOf.calls (l0.length:Int) a2 _ (by omega) (by omega)).mono ?_);rintro e w3 ⟨rfl,⟨n1,rfl⟩⟩;rw [O2.out];refine ⟨_,rfl,?_⟩;refine hK.out _ _ ⟨hHeld.1,⟨pw_below_drewN hHeld.2.1.out _⟩,⟨hHeld.2.2.out⟩⟩ (fun hHeld=>?_);clear hK K;refine nS 22 ?_;refine one_ (i:=9) (N:=some 8) (lA 12 1023) rfl rfl (by kernel_rfl) (by decide) (fun K hK=>?_);refine value_ (w1:=?_) (v:=?_) (by rfl) rfl ?_ ?_;rotate_left 2
       ·go_simp
        constructor
        ·rfl
        ·rfl
       refine hK.out _ _ ⟨(pw_cell_below (below_alloc (Below.refl _ _) _) hHeld.1),⟨zz3⟩,⟨blk_alloc hHeld.2.2.out _⟩⟩ (fun hHeld=>?_);clear hK K;refine nS 8 ?_;exact norm_ zz7 (hCont (W1.heap.size,W1.heap.size+1) _ ⟨(heap_two W1 _ _).1,(heap_two W1 _ _).2,(by simp),zz8,zz8,hHeld⟩)
      ·skip
       refine value_ (w1:=?_) (v:=?_) (by rfl) rfl ?_ ?_;rotate_left 2
       ·go_simp
        constructor
        ·rfl
        ·rfl
       refine hK.out _ _ ⟨(pw_cell_below (below_alloc (Below.refl _ _) _) hHeld.1),⟨zz3⟩,⟨blk_alloc hHeld.2.2.out _⟩⟩ (fun hHeld=>?_);clear hK K;refine nS 8 ?_;refine oS 7 22 (lA 12 1023) rfl rfl (fun K hK=>?_);refine gO Try.func51 #[.int .i64 (l0.length:Int),.int .i64 a2] ?_;(with_reducible refine (impl_kindOf.calls (l0.length:Int) a2 _ (by omega) (by omega)).mono ?_);rintro e w3 ⟨rfl,⟨n1,rfl⟩⟩;rw [O2.out];refine ⟨_,rfl,?_⟩;refine hK.out _ _ ⟨hHeld.1,⟨pw_below_drewN hHeld.2.1.out _⟩,⟨hHeld.2.2.out⟩⟩ (fun hHeld=>?_);clear hK K;refine nS 22 ?_;exact norm_ zz7 (hCont (W1.heap.size,W1.heap.size+1) _ ⟨(heap_two W1 _ _).1,(heap_two W1 _ _).2,(by simp),zz8,zz8,hHeld⟩)
     ·skip
      refine value_ (w1:=?_) (v:=?_) (by rfl) rfl ?_ ?_;rotate_left 2
      ·go_simp
       constructor
       ·rfl
       ·rfl
      refine hK.out _ _ ⟨(pw_cell_below (below_alloc (Below.refl _ _) _) hHeld.1),⟨zz3⟩,⟨blk_alloc hHeld.2.2.out _⟩⟩ (fun hHeld=>?_);clear hK K;refine nS 8 ?_;refine two_ (i:=7) (j:=8) (Ni:=some 22) (Nj:=some 7) (lA 12 767) (lA 12 895) rfl rfl rfl rfl (by kernel_rfl) (by decide) (by decide) (fun K hK=>?_) (fun K hK=>?_)
      ·skip
       refine gO Try.func51 #[.int .i64 (l0.length:Int),.int .i64 a2] ?_;(with_reducible refine (impl_kindOf.calls (l0.length:Int) a2 _ (by omega) (by omega)).mono ?_);rintro e w3 ⟨rfl,⟨n1,rfl⟩⟩;rw [O2.out];refine ⟨_,rfl,?_⟩;refine hK.out _ _ ⟨hHeld.1,⟨pw_below_drewN hHeld.2.1.out _⟩,⟨hHeld.2.2.out⟩⟩ (fun hHeld=>?_);clear hK K;refine nS 22 ?_;refine one_ (i:=8) (N:=some 7) (lA 12 1023) rfl rfl (by kernel_rfl) (by decide) (fun K hK=>?_);refine value_ (w1:=?_) (v:=?_) (by rfl) rfl ?_ ?_;rotate_left 2
       ·go_simp
        constructor
        ·rfl
        ·rfl
       refine hK.out _ _ ⟨(pw_cell_below (below_alloc (Below.refl _ _) _) hHeld.1),⟨zz3⟩,⟨blk_alloc hHeld.2.2.out _⟩⟩ (fun hHeld=>?_);clear hK K;refine nS 7 ?_;exact norm_ zz7 (hCont (W1.heap.size+1,W1.heap.size) _ ⟨(heap_two W1 _ _).2,(heap_two W1 _ _).1,(by simp),zz8,zz8,hHeld⟩)
      ·skip
       refine value_ (w1:=?_) (v:=?_) (by rfl) rfl ?_ ?_;rotate_left 2
       ·go_simp
        constructor
        ·rfl
        ·rfl
       refine hK.out _ _ ⟨(pw_cell_below (below_alloc (Below.refl _ _) _) hHeld.1),⟨zz3⟩,⟨blk_alloc hHeld.2.2.out _⟩⟩ (fun hHeld=>?_);clear hK K;refine nS 7 ?_;refine oS 7 22 (lA 12 1023) rfl rfl (fun K hK=>?_);refine gO Try.func51 #[.int .i64 (l0.length:Int),.int .i64 a2] ?_;(with_reducible refine (impl_kindOf.calls (l0.length:Int) a2 _ (by omega) (by omega)).mono ?_);rintro e w3 ⟨rfl,⟨n1,rfl⟩⟩;rw [O2.out];refine ⟨_,rfl,?_⟩;refine hK.out _ _ ⟨hHeld.1,⟨pw_below_drewN hHeld.2.1.out _⟩,⟨hHeld.2.2.out⟩⟩ (fun hHeld=>?_);clear hK K;refine nS 22 ?_;exact norm_ zz7 (hCont (W1.heap.size+1,W1.heap.size) _ ⟨(heap_two W1 _ _).2,(heap_two W1 _ _).1,(by simp),zz8,zz8,hHeld⟩)
    ·skip
     refine value_ (w1:=?_) (v:=?_) (by rfl) rfl ?_ ?_;rotate_left 2
     ·go_simp
      constructor
      ·rfl
      ·rfl
     refine hK.out _ _ ⟨(pw_cell_below (below_alloc (Below.refl _ _) _) hHeld.1),⟨zz3⟩,⟨blk_alloc hHeld.2.2.out _⟩⟩ (fun hHeld=>?_);clear hK K;refine nS 7 ?_;refine two_ (i:=3) (j:=9) (Ni:=some 18) (Nj:=some 8) (lA 12 383) (lA 12 887) rfl rfl rfl rfl (by kernel_rfl) (by decide) (by decide) (fun K hK=>?_) (fun K hK=>?_)
     ·skip
      refine gO Try.func51 #[.int .i64 (l0.length:Int),.int .i64 a1] ?_;(with_reducible refine (impl_kindOf.calls (l0.length:Int) a1 _ (by omega) (by omega)).mono ?_);rintro e w3 ⟨rfl,⟨n1,rfl⟩⟩;rw [O1.out];refine ⟨_,rfl,?_⟩;refine hK.out _ _ ⟨hHeld.1,⟨pw_below_drewN hHeld.2.1.out _⟩,⟨hHeld.2.2.out⟩⟩ (fun hHeld=>?_);clear hK K;refine nS 18 ?_;refine two_ (i:=7) (j:=9) (Ni:=some 22) (Nj:=some 8) (lA 12 511) (lA 12 895) rfl rfl rfl rfl (by kernel_rfl) (by decide) (by decide) (fun K hK=>?_) (fun K hK=>?_)
      ·skip
       refine gO Try.func51 #[.int .i64 (l0.length:Int),.int .i64 a2] ?_;(with_reducible refine (impl_kindOf.calls (l0.length:Int) a2 _ (by omega) (by omega)).mono ?_);rintro e w3 ⟨rfl,⟨n1,rfl⟩⟩;rw [O2.out];refine ⟨_,rfl,?_⟩;refine hK.out _ _ ⟨hHeld.1,⟨pw_below_drewN hHeld.2.1.out _⟩,⟨hHeld.2.2.out⟩⟩ (fun hHeld=>?_);clear hK K;refine nS 22 ?_;refine one_ (i:=9) (N:=some 8) (lA 12 1023) rfl rfl (by kernel_rfl) (by decide) (fun K hK=>?_);refine value_ (w1:=?_) (v:=?_) (by rfl) rfl ?_ ?_;rotate_left 2
       ·go_simp
        constructor
        ·rfl
        ·rfl
       refine hK.out _ _ ⟨(pw_cell_below (below_alloc (Below.refl _ _) _) hHeld.1),⟨zz3⟩,⟨blk_alloc hHeld.2.2.out _⟩⟩ (fun hHeld=>?_);clear hK K;refine nS 8 ?_;exact norm_ zz7 (hCont (W1.heap.size,W1.heap.size+1) _ ⟨(heap_two W1 _ _).1,(heap_two W1 _ _).2,(by simp),zz8,zz8,hHeld⟩)
      ·skip
       refine value_ (w1:=?_) (v:=?_) (by rfl) rfl ?_ ?_;rotate_left 2
       ·go_simp
        constructor
        ·rfl
        ·rfl
       refine hK.out _ _ ⟨(pw_cell_below (below_alloc (Below.refl _ _) _) hHeld.1),⟨zz3⟩,⟨blk_alloc hHeld.2.2.out _⟩⟩ (fun hHeld=>?_);clear hK K;refine nS 8 ?_;refine oS 7 22 (lA 12 1023) rfl rfl (fun K hK=>?_);refine gO Try.func51 #[.int .i64 (l0.length:Int),.int .i64 a2] ?_;(with_reducible refine (impl_kindOf.calls (l0.length:Int) a2 _ (by omega) (by omega)).mono ?_);rintro e w3 ⟨rfl,⟨n1,rfl⟩⟩;rw [O2.out];refine ⟨_,rfl,?_⟩;refine hK.out _ _ ⟨hHeld.1,⟨pw_below_drewN hHeld.2.1.out _⟩,⟨hHeld.2.2.out⟩⟩ (fun hHeld=>?_);clear hK K;refine nS 22 ?_;exact norm_ zz7 (hCont (W1.heap.size,W1.heap.size+1) _ ⟨(heap_two W1 _ _).1,(heap_two W1 _ _).2,(by simp),zz8,zz8,hHeld⟩)
     ·skip
      refine value_ (w1:=?_) (v:=?_) (by rfl) rfl ?_ ?_;rotate_left 2
      ·go_simp
       constructor
       ·rfl
       ·rfl
      refine hK.out _ _ ⟨(pw_cell_below (below_alloc (Below.refl _ _) _) hHeld.1),⟨zz3⟩,⟨blk_alloc hHeld.2.2.out _⟩⟩ (fun hHeld=>?_);clear hK K;refine nS 8 ?_;refine oS 3 18 (lA 12 895) rfl rfl (fun K hK=>?_);refine gO Try.func51 #[.int .i64 (l0.length:Int),.int .i64 a1] ?_;(with_reducible refine (impl_kindOf.calls (l0.length:Int) a1 _ (by omega) (by omega)).mono ?_);rintro e w3 ⟨rfl,⟨n1,rfl⟩⟩;rw [O1.out];refine ⟨_,rfl,?_⟩;refine hK.out _ _ ⟨hHeld.1,⟨pw_below_drewN hHeld.2.1.out _⟩,⟨hHeld.2.2.out⟩⟩ (fun hHeld=>?_);clear hK K;refine nS 18 ?_;refine oS 7 22 (lA 12 1023) rfl rfl (fun K hK=>?_);refine gO Try.func51 #[.int .i64 (l0.length:Int),.int .i64 a2] ?_;(with_reducible refine (impl_kindOf.calls (l0.length:Int) a2 _ (by omega) (by omega)).mono ?_);rintro e w3 ⟨rfl,⟨n1,rfl⟩⟩;rw [O2.out];refine ⟨_,rfl,?_⟩;refine hK.out _ _ ⟨hHeld.1,⟨pw_below_drewN hHeld.2.1.out _⟩,⟨hHeld.2.2.out⟩⟩ (fun hHeld=>?_);clear hK K;refine nS 22 ?_;exact norm_ zz7 (hCont (W1.heap.size,W1.heap.size+1) _ ⟨(heap_two W1 _ _).1,(heap_two W1 _ _).2,(by simp),zz8,zz8,hHeld⟩)
    ·skip
     refine value_ (w1:=?_) (v:=?_) (by rfl) rfl ?_ ?_;rotate_left 2
     ·go_simp
      constructor
      ·rfl
      ·rfl
     refine hK.out _ _ ⟨(pw_cell_below (below_alloc (Below.refl _ _) _) hHeld.1),⟨zz3⟩,⟨blk_alloc hHeld.2.2.out _⟩⟩ (fun hHeld=>?_);clear hK K;refine nS 8 ?_;refine two_ (i:=3) (j:=8) (Ni:=some 18) (Nj:=some 7) (lA 12 639) (lA 12 887) rfl rfl rfl rfl (by kernel_rfl) (by decide) (by decide) (fun K hK=>?_) (fun K hK=>?_)
     ·skip
      refine gO Try.func51 #[.int .i64 (l0.length:Int),.int .i64 a1] ?_;(with_reducible refine (impl_kindOf.calls (l0.length:Int) a1 _ (by omega) (by omega)).mono ?_);rintro e w3 ⟨rfl,⟨n1,rfl⟩⟩;rw [O1.out];refine ⟨_,rfl,?_⟩;refine hK.out _ _ ⟨hHeld.1,⟨pw_below_drewN hHeld.2.1.out _⟩,⟨hHeld.2.2.out⟩⟩ (fun hHeld=>?_);clear hK K;refine nS 18 ?_;refine two_ (i:=7) (j:=8) (Ni:=some 22) (Nj:=some 7) (lA 12 767) (lA 12 895) rfl rfl rfl rfl (by kernel_rfl) (by decide) (by decide) (fun K hK=>?_) (fun K hK=>?_)
      ·skip
       refine gO Try.func51 #[.int .i64 (l0.length:Int),.int .i64 a2] ?_;(with_reducible refine (impl_kindOf.calls (l0.length:Int) a2 _ (by omega) (by omega)).mono ?_);rintro e w3 ⟨rfl,⟨n1,rfl⟩⟩;rw [O2.out];refine ⟨_,rfl,?_⟩;refine hK.out _ _ ⟨hHeld.1,⟨pw_below_drewN hHeld.2.1.out _⟩,⟨hHeld.2.2.out⟩⟩ (fun hHeld=>?_);clear hK K;refine nS 22 ?_;refine one_ (i:=8) (N:=some 7) (lA 12 1023) rfl rfl (by kernel_rfl) (by decide) (fun K hK=>?_);refine value_ (w1:=?_) (v:=?_) (by rfl) rfl ?_ ?_;rotate_left 2
       ·go_simp
        constructor
        ·rfl
        ·rfl
       refine hK.out _ _ ⟨(pw_cell_below (below_alloc (Below.refl _ _) _) hHeld.1),⟨zz3⟩,⟨blk_alloc hHeld.2.2.out _⟩⟩ (fun hHeld=>?_);clear hK K;refine nS 7 ?_;exact norm_ zz7 (hCont (W1.heap.size+1,W1.heap.size) _ ⟨(heap_two W1 _ _).2,(heap_two W1 _ _).1,(by simp),zz8,zz8,hHeld⟩)
      ·skip
       refine value_ (w1:=?_) (v:=?_) (by rfl) rfl ?_ ?_;rotate_left 2
       ·go_simp
        constructor
        ·rfl
        ·rfl
       refine hK.out _ _ ⟨(pw_cell_below (below_alloc (Below.refl _ _) _) hHeld.1),⟨zz3⟩,⟨blk_alloc hHeld.2.2.out _⟩⟩ (fun hHeld=>?_);clear hK K;refine nS 7 ?_;refine oS 7 22 (lA 12 1023) rfl rfl (fun K hK=>?_);refine gO Try.func51 #[.int .i64 (l0.length:Int),.int .i64 a2] ?_;(with_reducible refine (impl_kindOf.calls (l0.length:Int) a2 _ (by omega) (by omega)).mono ?_);rintro e w3 ⟨rfl,⟨n1,rfl⟩⟩;rw [O2.out];refine ⟨_,rfl,?_⟩;refine hK.out _ _ ⟨hHeld.1,⟨pw_below_drewN hHeld.2.1.out _⟩,⟨hHeld.2.2.out⟩⟩ (fun hHeld=>?_);clear hK K;refine nS 22 ?_;exact norm_ zz7 (hCont (W1.heap.size+1,W1.heap.size) _ ⟨(heap_two W1 _ _).2,(heap_two W1 _ _).1,(by simp),zz8,zz8,hHeld⟩)
     ·skip
      refine value_ (w1:=?_) (v:=?_) (by rfl) rfl ?_ ?_;rotate_left 2
      ·go_simp
       constructor
       ·rfl
       ·rfl
      refine hK.out _ _ ⟨(pw_cell_below (below_alloc (Below.refl _ _) _) hHeld.1),⟨zz3⟩,⟨blk_alloc hHeld.2.2.out _⟩⟩ (fun hHeld=>?_);clear hK K;refine nS 7 ?_;refine oS 3 18 (lA 12 895) rfl rfl (fun K hK=>?_);refine gO Try.func51 #[.int .i64 (l0.length:Int),.int .i64 a1] ?_;(with_reducible refine (impl_kindOf.calls (l0.length:Int) a1 _ (by omega) (by omega)).mono ?_);rintro e w3 ⟨rfl,⟨n1,rfl⟩⟩;rw [O1.out];refine ⟨_,rfl,?_⟩;refine hK.out _ _ ⟨hHeld.1,⟨pw_below_drewN hHeld.2.1.out _⟩,⟨hHeld.2.2.out⟩⟩ (fun hHeld=>?_);clear hK K;refine nS 18 ?_;refine oS 7 22 (lA 12 1023) rfl rfl (fun K hK=>?_);refine gO Try.func51 #[.int .i64 (l0.length:Int),.int .i64 a2] ?_;(with_reducible refine (impl_kindOf.calls (l0.length:Int) a2 _ (by omega) (by omega)).mono ?_);rintro e w3 ⟨rfl,⟨n1,rfl⟩⟩;rw [O2.out];refine ⟨_,rfl,?_⟩;refine hK.out _ _ ⟨hHeld.1,⟨pw_below_drewN hHeld.2.1.out _⟩,⟨hHeld.2.2.out⟩⟩ (fun hHeld=>?_);clear hK K;refine nS 22 ?_;exact norm_ zz7 (hCont (W1.heap.size+1,W1.heap.size) _ ⟨(heap_two W1 _ _).2,(heap_two W1 _ _).1,(by simp),zz8,zz8,hHeld⟩)
   rintro ⟨p7,p8⟩ w2 ⟨hb7,hb8,hne,hg7,hg8,hHeld⟩;have cb7:=(blk_cell hb7 0).trans rfl;have fb7:=blk_frozen hb7 0;have cb8:=(blk_cell hb8 0).trans rfl;have fb8:=blk_frozen hb8 0;have HB7:=aK hb7;have HB8:=aK hb8;clear hb7 hb8;refine norm_ (a':=?_) ?_ ?_;rotate_left
   ·simp only [putAll, Act.put, List.setIfInBounds_toArray, List.set_cons_zero, List.set_cons_succ]
    rfl
   refine one_ (i:=10) (N:=none) (lA 12 2047) rfl rfl (by kernel_rfl) (by decide) (fun K hK=>?_);refine skip_ (w1:=?_) (by rfl) rfl ?_ ?_;rotate_left
   ·go_simp
    rfl
   refine hK.out _ _ ⟨((blk_cell (blk_far hHeld.2.2.out (by show w.heap.size≠p7;omega) _) 0).trans rfl),⟨below_set hHeld.2.1.out (by omega)⟩,⟨blk_far hHeld.2.2.out (by show w.heap.size≠p7;omega) _⟩⟩ (fun hHeld=>?_);clear hK K;refine one_ (i:=11) (N:=none) (lA 12 4095) rfl rfl (by kernel_rfl) (by decide) (fun K hK=>?_);refine skip_ (w1:=?_) (by rfl) rfl ?_ ?_;rotate_left
   ·go_simp
    rfl
   refine hK.out _ _ ⟨((blk_cell (blk_far hHeld.2.2.out (by show w.heap.size≠p8;omega) _) 0).trans rfl),⟨below_set hHeld.2.1.out (by omega)⟩,⟨blk_far hHeld.2.2.out (by show w.heap.size≠p8;omega) _⟩⟩ (fun hHeld=>?_);clear hK K;refine done_ (by kernel_rfl) ?_;have X7:Aside0 (((w2.setCell ⟨p7,0,none⟩ (.iface u1 v1)).setCell ⟨p8,0,none⟩ (.nilIface)).heap[p7]? =some (.cells #[.iface u1 v1] 70 (0,0))):=⟨blk_far (blk_put HB7.out 0 (.iface u1 v1) rfl) hne _⟩
   have X8:Aside0 (((w2.setCell ⟨p7,0,none⟩ (.iface u1 v1)).setCell ⟨p8,0,none⟩ (.nilIface)).heap[p8]? =some (.cells #[.nilIface] 70 (0,0))):=⟨blk_put (blk_far HB8.out (fun z=>hne z.symm) _) 0 (.nilIface) rfl⟩
   clear cb7 fb7 cb8 fb8 HB7 HB8;generalize ((w2.setCell ⟨p7,0,none⟩ (.iface u1 v1)).setCell ⟨p8,0,none⟩ (.nilIface))=W3 at X7 X8 hHeld ⊢;obtain ⟨cg,HB3,HG3⟩:=hHeld;have c7:=(blk_cell X7.out 0).trans rfl;have c8:=(blk_cell X8.out 0).trans rfl;go_wp2;go_ret;exact ⟨by rw [←Option.some.inj hx.out];rfl,HB3.out⟩
 ·have O1 := aK (show kndO l0.length a1 = .nilIface from if_neg k1)
  have N1: ∀W:World,(binOp .eql 70 .nilIface .nilIface).run Try.prog W= .ok (.bool true) W:=nil_eql
  have G1:=guard_nil;by_cases k2:kOk l0.length a2=true
  ·obtain ⟨u2, v2, e2⟩ := kndV_iface a2
   have O2:=aK (show kndO l0.length a2= .iface u2 v2 from (if_pos k2).trans e2);clear e2 k2;have hx:Aside0 (some 0=some r):=⟨by rw [←H.out,if_neg (by rw [Bool.not_eq_true _ |>.mp k1];simp)]⟩
   clear H;go_enter Try.func41,Try.ntmps41
   go_wp2_with fail
   refine sT 12 (S:=fun w'=>w'.cell? ⟨w.heap.size,0,none⟩=some (.slice A0 l0.length c0)∧Aside0 (Below w.heap.size w w')∧Aside0 (w'.heap[w.heap.size]? =some (.cells #[.slice A0 l0.length c0] 30 (0,0)))) (ds:=[]) ⟨(by go_simp),⟨below_drew1 (below_alloc (Below.refl _ _) _)⟩,⟨blk_new _ _⟩⟩ (fun hHeld=>?_);have HW1:=hHeld.2.2;generalize (World.alloc w _).drew=W1 at hHeld HW1 ⊢;refine pS 2 17 (lA 12 4) ?_;refine pS 6 21 (lA 12 68) ?_;refine tS 0 15 (lA 12 69) rfl rfl (by kernel_rfl) hHeld (by rintro w' ⟨s0,s1,s2⟩;go_simp;with_reducible rfl) ?_;refine pS 1 16 (lA 12 71) ?_;refine tS 4 19 (lA 12 87) rfl rfl (by kernel_rfl) hHeld (by rintro w' ⟨s0,s1,s2⟩;go_simp;with_reducible rfl) ?_;refine pS 5 20 (lA 12 119) ?_;refine join_ (σ:=Nat×Nat) 2 (lA 12 1023) (fun s=>[(18,.nilIface),(22,.iface u2 v2),(7,.pointer (some ⟨s.1,0,none⟩)),(8,.pointer (some ⟨s.2,0,none⟩))]) (fun s w'=>w'.heap[s.1]? =some (.cells #[.nilIface] 70 (0,0))∧w'.heap[s.2]? =some (.cells #[.nilIface] 70 (0,0))∧s.1≠s.2∧w.heap.size<s.1∧w.heap.size<s.2∧(w'.cell? ⟨w.heap.size,0,none⟩=some (.slice A0 l0.length c0)∧Aside0 (Below w.heap.size w w')∧Aside0 (w'.heap[w.heap.size]? =some (.cells #[.slice A0 l0.length c0] 30 (0,0))))) ?_ ?_;rotate_left
   ·intro hCont
    refine three_ (i:=3) (j:=8) (k:=9) (Ni:=some 18) (Nj:=some 7) (Nk:=some 8) (lA 12 127) (lA 12 375) (lA 12 631) rfl rfl rfl rfl rfl rfl (by kernel_rfl) (by decide) (by decide) (by decide) (fun K hK=>?_) (fun K hK=>?_) (fun K hK=>?_)
    ·skip
     refine gO Try.func51 #[.int .i64 (l0.length:Int),.int .i64 a1] ?_;(with_reducible refine (impl_kindOf.calls (l0.length:Int) a1 _ (by omega) (by omega)).mono ?_);rintro e w3 ⟨rfl,⟨n1,rfl⟩⟩;rw [O1.out];refine ⟨_,rfl,?_⟩;refine hK.out _ _ ⟨hHeld.1,⟨pw_below_drewN hHeld.2.1.out _⟩,⟨hHeld.2.2.out⟩⟩ (fun hHeld=>?_);clear hK K;refine nS 18 ?_;refine three_ (i:=7) (j:=8) (k:=9) (Ni:=some 22) (Nj:=some 7) (Nk:=some 8) (lA 12 255) (lA 12 383) (lA 12 639) rfl rfl rfl rfl rfl rfl (by kernel_rfl) (by decide) (by decide) (by decide) (fun K hK=>?_) (fun K hK=>?_) (fun K hK=>?_)
     ·skip
      refine gO Try.func51 #[.int .i64 (l0.length:Int),.int .i64 a2] ?_;(with_reducible refine (impl_kindOf.calls (l0.length:Int) a2 _ (by omega) (by omega)).mono ?_);rintro e w3 ⟨rfl,⟨n1,rfl⟩⟩;rw [O2.out];refine ⟨_,rfl,?_⟩;refine hK.out _ _ ⟨hHeld.1,⟨pw_below_drewN hHeld.2.1.out _⟩,⟨hHeld.2.2.out⟩⟩ (fun hHeld=>?_);clear hK K;refine nS 22 ?_;refine two_ (i:=8) (j:=9) (Ni:=some 7) (Nj:=some 8) (lA 12 511) (lA 12 767) rfl rfl rfl rfl (by kernel_rfl) (by decide) (by decide) (fun K hK=>?_) (fun K hK=>?_)
      ·skip
       refine value_ (w1:=?_) (v:=?_) (by rfl) rfl ?_ ?_;rotate_left 2
       ·go_simp
        constructor
        ·rfl
        ·rfl
       refine hK.out _ _ ⟨(pw_cell_below (below_alloc (Below.refl _ _) _) hHeld.1),⟨zz3⟩,⟨blk_alloc hHeld.2.2.out _⟩⟩ (fun hHeld=>?_);clear hK K;refine nS 7 ?_;refine one_ (i:=9) (N:=some 8) (lA 12 1023) rfl rfl (by kernel_rfl) (by decide) (fun K hK=>?_);refine value_ (w1:=?_) (v:=?_) (by rfl) rfl ?_ ?_;rotate_left 2
       ·go_simp
        constructor
        ·rfl
        ·rfl
       refine hK.out _ _ ⟨(pw_cell_below (below_alloc (Below.refl _ _) _) hHeld.1),⟨zz3⟩,⟨blk_alloc hHeld.2.2.out _⟩⟩ (fun hHeld=>?_);clear hK K;refine nS 8 ?_;exact norm_ zz7 (hCont (W1.heap.size,W1.heap.size+1) _ ⟨(heap_two W1 _ _).1,(heap_two W1 _ _).2,(by simp),zz8,zz8,hHeld⟩)
      ·skip
       refine value_ (w1:=?_) (v:=?_) (by rfl) rfl ?_ ?_;rotate_left 2
       ·go_simp
        constructor
        ·rfl
        ·rfl
       refine hK.out _ _ ⟨(pw_cell_below (below_alloc (Below.refl _ _) _) hHeld.1),⟨zz3⟩,⟨blk_alloc hHeld.2.2.out _⟩⟩ (fun hHeld=>?_);clear hK K;refine nS 8 ?_;refine one_ (i:=8) (N:=some 7) (lA 12 1023) rfl rfl (by kernel_rfl) (by decide) (fun K hK=>?_);refine value_ (w1:=?_) (v:=?_) (by rfl) rfl ?_ ?_;rotate_left 2
       ·go_simp
        constructor
        ·rfl
        ·rfl
       refine hK.out _ _ ⟨(pw_cell_below (below_alloc (Below.refl _ _) _) hHeld.1),⟨zz3⟩,⟨blk_alloc hHeld.2.2.out _⟩⟩ (fun hHeld=>?_);clear hK K;refine nS 7 ?_;exact norm_ zz7 (hCont (W1.heap.size+1,W1.heap.size) _ ⟨(heap_two W1 _ _).2,(heap_two W1 _ _).1,(by simp),zz8,zz8,hHeld⟩)
     ·skip
      refine value_ (w1:=?_) (v:=?_) (by rfl) rfl ?_ ?_;rotate_left 2
      ·go_simp
       constructor
       ·rfl
       ·rfl
      refine hK.out _ _ ⟨(pw_cell_below (below_alloc (Below.refl _ _) _) hHeld.1),⟨zz3⟩,⟨blk_alloc hHeld.2.2.out _⟩⟩ (fun hHeld=>?_);clear hK K;refine nS 7 ?_;refine two_ (i:=7) (j:=9) (Ni:=some 22) (Nj:=some 8) (lA 12 511) (lA 12 895) rfl rfl rfl rfl (by kernel_rfl) (by decide) (by decide) (fun K hK=>?_) (fun K hK=>?_)
      ·skip
       refine gO Try.func51 #[.int .i64 (l0.length:Int),.int .i64 a2] ?_;(with_reducible refine (impl_kindOf.calls (l0.length:Int) a2 _ (by omega) (by omega)).mono ?_);rintro e w3 ⟨rfl,⟨n1,rfl⟩⟩;rw [O2.out];refine ⟨_,rfl,?_⟩;refine hK.out _ _ ⟨hHeld.1,⟨pw_below_drewN hHeld.2.1.out _⟩,⟨hHeld.2.2.out⟩⟩ (fun hHeld=>?_);clear hK K;refine nS 22 ?_;refine one_ (i:=9) (N:=some 8) (lA 12 1023) rfl rfl (by kernel_rfl) (by decide) (fun K hK=>?_);refine value_ (w1:=?_) (v:=?_) (by rfl) rfl ?_ ?_;rotate_left 2
       ·go_simp
        constructor
        ·rfl
        ·rfl
       refine hK.out _ _ ⟨(pw_cell_below (below_alloc (Below.refl _ _) _) hHeld.1),⟨zz3⟩,⟨blk_alloc hHeld.2.2.out _⟩⟩ (fun hHeld=>?_);clear hK K;refine nS 8 ?_;exact norm_ zz7 (hCont (W1.heap.size,W1.heap.size+1) _ ⟨(heap_two W1 _ _).1,(heap_two W1 _ _).2,(by simp),zz8,zz8,hHeld⟩)
      ·skip
       refine value_ (w1:=?_) (v:=?_) (by rfl) rfl ?_ ?_;rotate_left 2
       ·go_simp
        constructor
        ·rfl
        ·rfl
       refine hK.out _ _ ⟨(pw_cell_below (below_alloc (Below.refl _ _) _) hHeld.1),⟨zz3⟩,⟨blk_alloc hHeld.2.2.out _⟩⟩ (fun hHeld=>?_);clear hK K;refine nS 8 ?_;refine oS 7 22 (lA 12 1023) rfl rfl (fun K hK=>?_);refine gO Try.func51 #[.int .i64 (l0.length:Int),.int .i64 a2] ?_;(with_reducible refine (impl_kindOf.calls (l0.length:Int) a2 _ (by omega) (by omega)).mono ?_);rintro e w3 ⟨rfl,⟨n1,rfl⟩⟩;rw [O2.out];refine ⟨_,rfl,?_⟩;refine hK.out _ _ ⟨hHeld.1,⟨pw_below_drewN hHeld.2.1.out _⟩,⟨hHeld.2.2.out⟩⟩ (fun hHeld=>?_);clear hK K;refine nS 22 ?_;exact norm_ zz7 (hCont (W1.heap.size,W1.heap.size+1) _ ⟨(heap_two W1 _ _).1,(heap_two W1 _ _).2,(by simp),zz8,zz8,hHeld⟩)
     ·skip
      refine value_ (w1:=?_) (v:=?_) (by rfl) rfl ?_ ?_;rotate_left 2
      ·go_simp
       constructor
       ·rfl
       ·rfl
      refine hK.out _ _ ⟨(pw_cell_below (below_alloc (Below.refl _ _) _) hHeld.1),⟨zz3⟩,⟨blk_alloc hHeld.2.2.out _⟩⟩ (fun hHeld=>?_);clear hK K;refine nS 8 ?_;refine two_ (i:=7) (j:=8) (Ni:=some 22) (Nj:=some 7) (lA 12 767) (lA 12 895) rfl rfl rfl rfl (by kernel_rfl) (by decide) (by decide) (fun K hK=>?_) (fun K hK=>?_)
      ·skip
       refine gO Try.func51 #[.int .i64 (l0.length:Int),.int .i64 a2] ?_;(with_reducible refine (impl_kindOf.calls (l0.length:Int) a2 _ (by omega) (by omega)).mono ?_);rintro e w3 ⟨rfl,⟨n1,rfl⟩⟩;rw [O2.out];refine ⟨_,rfl,?_⟩;refine hK.out _ _ ⟨hHeld.1,⟨pw_below_drewN hHeld.2.1.out _⟩,⟨hHeld.2.2.out⟩⟩ (fun hHeld=>?_);clear hK K;refine nS 22 ?_;refine one_ (i:=8) (N:=some 7) (lA 12 1023) rfl rfl (by kernel_rfl) (by decide) (fun K hK=>?_);refine value_ (w1:=?_) (v:=?_) (by rfl) rfl ?_ ?_;rotate_left 2
       ·go_simp
        constructor
        ·rfl
        ·rfl
       refine hK.out _ _ ⟨(pw_cell_below (below_alloc (Below.refl _ _) _) hHeld.1),⟨zz3⟩,⟨blk_alloc hHeld.2.2.out _⟩⟩ (fun hHeld=>?_);clear hK K;refine nS 7 ?_;exact norm_ zz7 (hCont (W1.heap.size+1,W1.heap.size) _ ⟨(heap_two W1 _ _).2,(heap_two W1 _ _).1,(by simp),zz8,zz8,hHeld⟩)
      ·skip
       refine value_ (w1:=?_) (v:=?_) (by rfl) rfl ?_ ?_;rotate_left 2
       ·go_simp
        constructor
        ·rfl
        ·rfl
       refine hK.out _ _ ⟨(pw_cell_below (below_alloc (Below.refl _ _) _) hHeld.1),⟨zz3⟩,⟨blk_alloc hHeld.2.2.out _⟩⟩ (fun hHeld=>?_);clear hK K;refine nS 7 ?_;refine oS 7 22 (lA 12 1023) rfl rfl (fun K hK=>?_);refine gO Try.func51 #[.int .i64 (l0.length:Int),.int .i64 a2] ?_;(with_reducible refine (impl_kindOf.calls (l0.length:Int) a2 _ (by omega) (by omega)).mono ?_);rintro e w3 ⟨rfl,⟨n1,rfl⟩⟩;rw [O2.out];refine ⟨_,rfl,?_⟩;refine hK.out _ _ ⟨hHeld.1,⟨pw_below_drewN hHeld.2.1.out _⟩,⟨hHeld.2.2.out⟩⟩ (fun hHeld=>?_);clear hK K;refine nS 22 ?_;exact norm_ zz7 (hCont (W1.heap.size+1,W1.heap.size) _ ⟨(heap_two W1 _ _).2,(heap_two W1 _ _).1,(by simp),zz8,zz8,hHeld⟩)
    ·skip
     refine value_ (w1:=?_) (v:=?_) (by rfl) rfl ?_ ?_;rotate_left 2
     ·go_simp
      constructor
      ·rfl
      ·rfl
     refine hK.out _ _ ⟨(pw_cell_below (below_alloc (Below.refl _ _) _) hHeld.1),⟨zz3⟩,⟨blk_alloc hHeld.2.2.out _⟩⟩ (fun hHeld=>?_);clear hK K;refine nS 7 ?_;refine two_ (i:=3) (j:=9) (Ni:=some 18) (Nj:=some 8) (lA 12 383) (lA 12 887) rfl rfl rfl rfl (by kernel_rfl) (by decide) (by decide) (fun K hK=>?_) (fun K hK=>?_)
     ·skip
      refine gO Try.func51 #[.int .i64 (l0.length:Int),.int .i64 a1] ?_;(with_reducible refine (impl_kindOf.calls (l0.length:Int) a1 _ (by omega) (by omega)).mono ?_);rintro e w3 ⟨rfl,⟨n1,rfl⟩⟩;rw [O1.out];refine ⟨_,rfl,?_⟩;refine hK.out _ _ ⟨hHeld.1,⟨pw_below_drewN hHeld.2.1.out _⟩,⟨hHeld.2.2.out⟩⟩ (fun hHeld=>?_);clear hK K;refine nS 18 ?_;refine two_ (i:=7) (j:=9) (Ni:=some 22) (Nj:=some 8) (lA 12 511) (lA 12 895) rfl rfl rfl rfl (by kernel_rfl) (by decide) (by decide) (fun K hK=>?_) (fun K hK=>?_)
      ·skip
       refine gO Try.func51 #[.int .i64 (l0.length:Int),.int .i64 a2] ?_;(with_reducible refine (impl_kindOf.calls (l0.length:Int) a2 _ (by omega) (by omega)).mono ?_);rintro e w3 ⟨rfl,⟨n1,rfl⟩⟩;rw [O2.out];refine ⟨_,rfl,?_⟩;refine hK.out _ _ ⟨hHeld.1,⟨pw_below_drewN hHeld.2.1.out _⟩,⟨hHeld.2.2.out⟩⟩ (fun hHeld=>?_);clear hK K;refine nS 22 ?_;refine one_ (i:=9) (N:=some 8) (lA 12 1023) rfl rfl (by kernel_rfl) (by decide) (fun K hK=>?_);refine value_ (w1:=?_) (v:=?_) (by rfl) rfl ?_ ?_;rotate_left 2
       ·go_simp
        constructor
        ·rfl
        ·rfl
       refine hK.out _ _ ⟨(pw_cell_below (below_alloc (Below.refl _ _) _) hHeld.1),⟨zz3⟩,⟨blk_alloc hHeld.2.2.out _⟩⟩ (fun hHeld=>?_);clear hK K;refine nS 8 ?_;exact norm_ zz7 (hCont (W1.heap.size,W1.heap.size+1) _ ⟨(heap_two W1 _ _).1,(heap_two W1 _ _).2,(by simp),zz8,zz8,hHeld⟩)
      ·skip
       refine value_ (w1:=?_) (v:=?_) (by rfl) rfl ?_ ?_;rotate_left 2
       ·go_simp
        constructor
        ·rfl
        ·rfl
       refine hK.out _ _ ⟨(pw_cell_below (below_alloc (Below.refl _ _) _) hHeld.1),⟨zz3⟩,⟨blk_alloc hHeld.2.2.out _⟩⟩ (fun hHeld=>?_);clear hK K;refine nS 8 ?_;refine oS 7 22 (lA 12 1023) rfl rfl (fun K hK=>?_);refine gO Try.func51 #[.int .i64 (l0.length:Int),.int .i64 a2] ?_;(with_reducible refine (impl_kindOf.calls (l0.length:Int) a2 _ (by omega) (by omega)).mono ?_);rintro e w3 ⟨rfl,⟨n1,rfl⟩⟩;rw [O2.out];refine ⟨_,rfl,?_⟩;refine hK.out _ _ ⟨hHeld.1,⟨pw_below_drewN hHeld.2.1.out _⟩,⟨hHeld.2.2.out⟩⟩ (fun hHeld=>?_);clear hK K;refine nS 22 ?_;exact norm_ zz7 (hCont (W1.heap.size,W1.heap.size+1) _ ⟨(heap_two W1 _ _).1,(heap_two W1 _ _).2,(by simp),zz8,zz8,hHeld⟩)
     ·skip
      refine value_ (w1:=?_) (v:=?_) (by rfl) rfl ?_ ?_;rotate_left 2
      ·go_simp
       constructor
       ·rfl
       ·rfl
      refine hK.out _ _ ⟨(pw_cell_below (below_alloc (Below.refl _ _) _) hHeld.1),⟨zz3⟩,⟨blk_alloc hHeld.2.2.out _⟩⟩ (fun hHeld=>?_);clear hK K;refine nS 8 ?_;refine oS 3 18 (lA 12 895) rfl rfl (fun K hK=>?_);refine gO Try.func51 #[.int .i64 (l0.length:Int),.int .i64 a1] ?_;(with_reducible refine (impl_kindOf.calls (l0.length:Int) a1 _ (by omega) (by omega)).mono ?_);rintro e w3 ⟨rfl,⟨n1,rfl⟩⟩;rw [O1.out];refine ⟨_,rfl,?_⟩;refine hK.out _ _ ⟨hHeld.1,⟨pw_below_drewN hHeld.2.1.out _⟩,⟨hHeld.2.2.out⟩⟩ (fun hHeld=>?_);clear hK K;refine nS 18 ?_;refine oS 7 22 (lA 12 1023) rfl rfl (fun K hK=>?_);refine gO Try.func51 #[.int .i64 (l0.length:Int),.int .i64 a2] ?_;(with_reducible refine (impl_kindOf.calls (l0.length:Int) a2 _ (by omega) (by omega)).mono ?_);rintro e w3 ⟨rfl,⟨n1,rfl⟩⟩;rw [O2.out];refine ⟨_,rfl,?_⟩;refine hK.out _ _ ⟨hHeld.1,⟨pw_below_drewN hHeld.2.1.out _⟩,⟨hHeld.2.2.out⟩⟩ (fun hHeld=>?_);clear hK K;refine nS 22 ?_;exact norm_ zz7 (hCont (W1.heap.size,W1.heap.size+1) _ ⟨(heap_two W1 _ _).1,(heap_two W1 _ _).2,(by simp),zz8,zz8,hHeld⟩)
    ·skip
     refine value_ (w1:=?_) (v:=?_) (by rfl) rfl ?_ ?_;rotate_left 2
     ·go_simp
      constructor
      ·rfl
      ·rfl
     refine hK.out _ _ ⟨(pw_cell_below (below_alloc (Below.refl _ _) _) hHeld.1),⟨zz3⟩,⟨blk_alloc hHeld.2.2.out _⟩⟩ (fun hHeld=>?_);clear hK K;refine nS 8 ?_;refine two_ (i:=3) (j:=8) (Ni:=some 18) (Nj:=some 7) (lA 12 639) (lA 12 887) rfl rfl rfl rfl (by kernel_rfl) (by decide) (by decide) (fun K hK=>?_) (fun K hK=>?_)
     ·skip
      refine gO Try.func51 #[.int .i64 (l0.length:Int),.int .i64 a1] ?_;(with_reducible refine (impl_kindOf.calls (l0.length:Int) a1 _ (by omega) (by omega)).mono ?_);rintro e w3 ⟨rfl,⟨n1,rfl⟩⟩;rw [O1.out];refine ⟨_,rfl,?_⟩;refine hK.out _ _ ⟨hHeld.1,⟨pw_below_drewN hHeld.2.1.out _⟩,⟨hHeld.2.2.out⟩⟩ (fun hHeld=>?_);clear hK K;refine nS 18 ?_;refine two_ (i:=7) (j:=8) (Ni:=some 22) (Nj:=some 7) (lA 12 767) (lA 12 895) rfl rfl rfl rfl (by kernel_rfl) (by decide) (by decide) (fun K hK=>?_) (fun K hK=>?_)
      ·skip
       refine gO Try.func51 #[.int .i64 (l0.length:Int),.int .i64 a2] ?_;(with_reducible refine (impl_kindOf.calls (l0.length:Int) a2 _ (by omega) (by omega)).mono ?_);rintro e w3 ⟨rfl,⟨n1,rfl⟩⟩;rw [O2.out];refine ⟨_,rfl,?_⟩;refine hK.out _ _ ⟨hHeld.1,⟨pw_below_drewN hHeld.2.1.out _⟩,⟨hHeld.2.2.out⟩⟩ (fun hHeld=>?_);clear hK K;refine nS 22 ?_;refine one_ (i:=8) (N:=some 7) (lA 12 1023) rfl rfl (by kernel_rfl) (by decide) (fun K hK=>?_);refine value_ (w1:=?_) (v:=?_) (by rfl) rfl ?_ ?_;rotate_left 2
       ·go_simp
        constructor
        ·rfl
        ·rfl
       refine hK.out _ _ ⟨(pw_cell_below (below_alloc (Below.refl _ _) _) hHeld.1),⟨zz3⟩,⟨blk_alloc hHeld.2.2.out _⟩⟩ (fun hHeld=>?_);clear hK K;refine nS 7 ?_;exact norm_ zz7 (hCont (W1.heap.size+1,W1.heap.size) _ ⟨(heap_two W1 _ _).2,(heap_two W1 _ _).1,(by simp),zz8,zz8,hHeld⟩)
      ·skip
       refine value_ (w1:=?_) (v:=?_) (by rfl) rfl ?_ ?_;rotate_left 2
       ·go_simp
        constructor
        ·rfl
        ·rfl
       refine hK.out _ _ ⟨(pw_cell_below (below_alloc (Below.refl _ _) _) hHeld.1),⟨zz3⟩,⟨blk_alloc hHeld.2.2.out _⟩⟩ (fun hHeld=>?_);clear hK K;refine nS 7 ?_;refine oS 7 22 (lA 12 1023) rfl rfl (fun K hK=>?_);refine gO Try.func51 #[.int .i64 (l0.length:Int),.int .i64 a2] ?_;(with_reducible refine (impl_kindOf.calls (l0.length:Int) a2 _ (by omega) (by omega)).mono ?_);rintro e w3 ⟨rfl,⟨n1,rfl⟩⟩;rw [O2.out];refine ⟨_,rfl,?_⟩;refine hK.out _ _ ⟨hHeld.1,⟨pw_below_drewN hHeld.2.1.out _⟩,⟨hHeld.2.2.out⟩⟩ (fun hHeld=>?_);clear hK K;refine nS 22 ?_;exact norm_ zz7 (hCont (W1.heap.size+1,W1.heap.size) _ ⟨(heap_two W1 _ _).2,(heap_two W1 _ _).1,(by simp),zz8,zz8,hHeld⟩)
     ·skip
      refine value_ (w1:=?_) (v:=?_) (by rfl) rfl ?_ ?_;rotate_left 2
      ·go_simp
       constructor
       ·rfl
       ·rfl
      refine hK.out _ _ ⟨(pw_cell_below (below_alloc (Below.refl _ _) _) hHeld.1),⟨zz3⟩,⟨blk_alloc hHeld.2.2.out _⟩⟩ (fun hHeld=>?_);clear hK K;refine nS 7 ?_;refine oS 3 18 (lA 12 895) rfl rfl (fun K hK=>?_);refine gO Try.func51 #[.int .i64 (l0.length:Int),.int .i64 a1] ?_;(with_reducible refine (impl_kindOf.calls (l0.length:Int) a1 _ (by omega) (by omega)).mono ?_);rintro e w3 ⟨rfl,⟨n1,rfl⟩⟩;rw [O1.out];refine ⟨_,rfl,?_⟩;refine hK.out _ _ ⟨hHeld.1,⟨pw_below_drewN hHeld.2.1.out _⟩,⟨hHeld.2.2.out⟩⟩ (fun hHeld=>?_);clear hK K;refine nS 18 ?_;refine oS 7 22 (lA 12 1023) rfl rfl (fun K hK=>?_);refine gO Try.func51 #[.int .i64 (l0.length:Int),.int .i64 a2] ?_;(with_reducible refine (impl_kindOf.calls (l0.length:Int) a2 _ (by omega) (by omega)).mono ?_);rintro e w3 ⟨rfl,⟨n1,rfl⟩⟩;rw [O2.out];refine ⟨_,rfl,?_⟩;refine hK.out _ _ ⟨hHeld.1,⟨pw_below_drewN hHeld.2.1.out _⟩,⟨hHeld.2.2.out⟩⟩ (fun hHeld=>?_);clear hK K;refine nS 22 ?_;exact norm_ zz7 (hCont (W1.heap.size+1,W1.heap.size) _ ⟨(heap_two W1 _ _).2,(heap_two W1 _ _).1,(by simp),zz8,zz8,hHeld⟩)
   rintro ⟨p7,p8⟩ w2 ⟨hb7,hb8,hne,hg7,hg8,hHeld⟩;have cb7:=(blk_cell hb7 0).trans rfl;have fb7:=blk_frozen hb7 0;have cb8:=(blk_cell hb8 0).trans rfl;have fb8:=blk_frozen hb8 0;have HB7:=aK hb7;have HB8:=aK hb8;clear hb7 hb8;refine norm_ (a':=?_) ?_ ?_;rotate_left
   ·simp only [putAll, Act.put, List.setIfInBounds_toArray, List.set_cons_zero, List.set_cons_succ]
    rfl
   refine one_ (i:=10) (N:=none) (lA 12 2047) rfl rfl (by kernel_rfl) (by decide) (fun K hK=>?_);refine skip_ (w1:=?_) (by rfl) rfl ?_ ?_;rotate_left
   ·go_simp
    rfl
   refine hK.out _ _ ⟨((blk_cell (blk_far hHeld.2.2.out (by show w.heap.size≠p7;omega) _) 0).trans rfl),⟨below_set hHeld.2.1.out (by omega)⟩,⟨blk_far hHeld.2.2.out (by show w.heap.size≠p7;omega) _⟩⟩ (fun hHeld=>?_);clear hK K;refine one_ (i:=11) (N:=none) (lA 12 4095) rfl rfl (by kernel_rfl) (by decide) (fun K hK=>?_);refine skip_ (w1:=?_) (by rfl) rfl ?_ ?_;rotate_left
   ·go_simp
    rfl
   refine hK.out _ _ ⟨((blk_cell (blk_far hHeld.2.2.out (by show w.heap.size≠p8;omega) _) 0).trans rfl),⟨below_set hHeld.2.1.out (by omega)⟩,⟨blk_far hHeld.2.2.out (by show w.heap.size≠p8;omega) _⟩⟩ (fun hHeld=>?_);clear hK K;refine done_ (by kernel_rfl) ?_;have X7:Aside0 (((w2.setCell ⟨p7,0,none⟩ (.nilIface)).setCell ⟨p8,0,none⟩ (.iface u2 v2)).heap[p7]? =some (.cells #[.nilIface] 70 (0,0))):=⟨blk_far (blk_put HB7.out 0 (.nilIface) rfl) hne _⟩
   have X8:Aside0 (((w2.setCell ⟨p7,0,none⟩ (.nilIface)).setCell ⟨p8,0,none⟩ (.iface u2 v2)).heap[p8]? =some (.cells #[.iface u2 v2] 70 (0,0))):=⟨blk_put (blk_far HB8.out (fun z=>hne z.symm) _) 0 (.iface u2 v2) rfl⟩
   clear cb7 fb7 cb8 fb8 HB7 HB8;generalize ((w2.setCell ⟨p7,0,none⟩ (.nilIface)).setCell ⟨p8,0,none⟩ (.iface u2 v2))=W3 at X7 X8 hHeld ⊢;obtain ⟨cg,HB3,HG3⟩:=hHeld;have c7:=(blk_cell X7.out 0).trans rfl;have c8:=(blk_cell X8.out 0).trans rfl;go_wp2;go_ret;exact ⟨by rw [←Option.some.inj hx.out];rfl,HB3.out⟩
  ·have O2 := aK (show kndO l0.length a2 = .nilIface from if_neg k2)
   clear k2;have hx:Aside0 (some 0=some r):=⟨by rw [←H.out,if_neg (by rw [Bool.not_eq_true _ |>.mp k1];simp)]⟩
   clear H;go_enter Try.func41,Try.ntmps41
   go_wp2_with fail
   refine sT 12 (S:=fun w'=>w'.cell? ⟨w.heap.size,0,none⟩=some (.slice A0 l0.length c0)∧Aside0 (Below w.heap.size w w')∧Aside0 (w'.heap[w.heap.size]? =some (.cells #[.slice A0 l0.length c0] 30 (0,0)))) (ds:=[]) ⟨(by go_simp),⟨below_drew1 (below_alloc (Below.refl _ _) _)⟩,⟨blk_new _ _⟩⟩ (fun hHeld=>?_);have HW1:=hHeld.2.2;generalize (World.alloc w _).drew=W1 at hHeld HW1 ⊢;refine pS 2 17 (lA 12 4) ?_;refine pS 6 21 (lA 12 68) ?_;refine tS 0 15 (lA 12 69) rfl rfl (by kernel_rfl) hHeld (by rintro w' ⟨s0,s1,s2⟩;go_simp;with_reducible rfl) ?_;refine pS 1 16 (lA 12 71) ?_;refine tS 4 19 (lA 12 87) rfl rfl (by kernel_rfl) hHeld (by rintro w' ⟨s0,s1,s2⟩;go_simp;with_reducible rfl) ?_;refine pS 5 20 (lA 12 119) ?_;refine join_ (σ:=Nat×Nat) 2 (lA 12 1023) (fun s=>[(18,.nilIface),(22,.nilIface),(7,.pointer (some ⟨s.1,0,none⟩)),(8,.pointer (some ⟨s.2,0,none⟩))]) (fun s w'=>w'.heap[s.1]? =some (.cells #[.nilIface] 70 (0,0))∧w'.heap[s.2]? =some (.cells #[.nilIface] 70 (0,0))∧s.1≠s.2∧w.heap.size<s.1∧w.heap.size<s.2∧(w'.cell? ⟨w.heap.size,0,none⟩=some (.slice A0 l0.length c0)∧Aside0 (Below w.heap.size w w')∧Aside0 (w'.heap[w.heap.size]? =some (.cells #[.slice A0 l0.length c0] 30 (0,0))))) ?_ ?_;rotate_left
   ·intro hCont
    refine three_ (i:=3) (j:=8) (k:=9) (Ni:=some 18) (Nj:=some 7) (Nk:=some 8) (lA 12 127) (lA 12 375) (lA 12 631) rfl rfl rfl rfl rfl rfl (by kernel_rfl) (by decide) (by decide) (by decide) (fun K hK=>?_) (fun K hK=>?_) (fun K hK=>?_)
    ·skip
     refine gO Try.func51 #[.int .i64 (l0.length:Int),.int .i64 a1] ?_;(with_reducible refine (impl_kindOf.calls (l0.length:Int) a1 _ (by omega) (by omega)).mono ?_);rintro e w3 ⟨rfl,⟨n1,rfl⟩⟩;rw [O1.out];refine ⟨_,rfl,?_⟩;refine hK.out _ _ ⟨hHeld.1,⟨pw_below_drewN hHeld.2.1.out _⟩,⟨hHeld.2.2.out⟩⟩ (fun hHeld=>?_);clear hK K;refine nS 18 ?_;refine three_ (i:=7) (j:=8) (k:=9) (Ni:=some 22) (Nj:=some 7) (Nk:=some 8) (lA 12 255) (lA 12 383) (lA 12 639) rfl rfl rfl rfl rfl rfl (by kernel_rfl) (by decide) (by decide) (by decide) (fun K hK=>?_) (fun K hK=>?_) (fun K hK=>?_)
     ·skip
      refine gO Try.func51 #[.int .i64 (l0.length:Int),.int .i64 a2] ?_;(with_reducible refine (impl_kindOf.calls (l0.length:Int) a2 _ (by omega) (by omega)).mono ?_);rintro e w3 ⟨rfl,⟨n1,rfl⟩⟩;rw [O2.out];refine ⟨_,rfl,?_⟩;refine hK.out _ _ ⟨hHeld.1,⟨pw_below_drewN hHeld.2.1.out _⟩,⟨hHeld.2.2.out⟩⟩ (fun hHeld=>?_);clear hK K;refine nS 22 ?_;refine two_ (i:=8) (j:=9) (Ni:=some 7) (Nj:=some 8) (lA 12 511) (lA 12 767) rfl rfl rfl rfl (by kernel_rfl) (by decide) (by decide) (fun K hK=>?_) (fun K hK=>?_)
      ·skip
       refine value_ (w1:=?_) (v:=?_) (by rfl) rfl ?_ ?_;rotate_left 2
       ·go_simp
        constructor
        ·rfl
        ·rfl
       refine hK.out _ _ ⟨(pw_cell_below (below_alloc (Below.refl _ _) _) hHeld.1),⟨zz3⟩,⟨blk_alloc hHeld.2.2.out _⟩⟩ (fun hHeld=>?_);clear hK K;refine nS 7 ?_;refine one_ (i:=9) (N:=some 8) (lA 12 1023) rfl rfl (by kernel_rfl) (by decide) (fun K hK=>?_);refine value_ (w1:=?_) (v:=?_) (by rfl) rfl ?_ ?_;rotate_left 2
       ·go_simp
        constructor
        ·rfl
        ·rfl
       refine hK.out _ _ ⟨(pw_cell_below (below_alloc (Below.refl _ _) _) hHeld.1),⟨zz3⟩,⟨blk_alloc hHeld.2.2.out _⟩⟩ (fun hHeld=>?_);clear hK K;refine nS 8 ?_;exact norm_ zz7 (hCont (W1.heap.size,W1.heap.size+1) _ ⟨(heap_two W1 _ _).1,(heap_two W1 _ _).2,(by simp),zz8,zz8,hHeld⟩)
      ·skip
       refine value_ (w1:=?_) (v:=?_) (by rfl) rfl ?_ ?_;rotate_left 2
       ·go_simp
        constructor
        ·rfl
        ·rfl
       refine hK.out _ _ ⟨(pw_cell_below (below_alloc (Below.refl _ _) _) hHeld.1),⟨zz3⟩,⟨blk_alloc hHeld.2.2.out _⟩⟩ (fun hHeld=>?_);clear hK K;refine nS 8 ?_;refine one_ (i:=8) (N:=some 7) (lA 12 1023) rfl rfl (by kernel_rfl) (by decide) (fun K hK=>?_);refine value_ (w1:=?_) (v:=?_) (by rfl) rfl ?_ ?_;rotate_left 2
       ·go_simp
        constructor
        ·rfl
        ·rfl
       refine hK.out _ _ ⟨(pw_cell_below (below_alloc (Below.refl _ _) _) hHeld.1),⟨zz3⟩,⟨blk_alloc hHeld.2.2.out _⟩⟩ (fun hHeld=>?_);clear hK K;refine nS 7 ?_;exact norm_ zz7 (hCont (W1.heap.size+1,W1.heap.size) _ ⟨(heap_two W1 _ _).2,(heap_two W1 _ _).1,(by simp),zz8,zz8,hHeld⟩)
     ·skip
      refine value_ (w1:=?_) (v:=?_) (by rfl) rfl ?_ ?_;rotate_left 2
      ·go_simp
       constructor
       ·rfl
       ·rfl
      refine hK.out _ _ ⟨(pw_cell_below (below_alloc (Below.refl _ _) _) hHeld.1),⟨zz3⟩,⟨blk_alloc hHeld.2.2.out _⟩⟩ (fun hHeld=>?_);clear hK K;refine nS 7 ?_;refine two_ (i:=7) (j:=9) (Ni:=some 22) (Nj:=some 8) (lA 12 511) (lA 12 895) rfl rfl rfl rfl (by kernel_rfl) (by decide) (by decide) (fun K hK=>?_) (fun K hK=>?_)
      ·skip
       refine gO Try.func51 #[.int .i64 (l0.length:Int),.int .i64 a2] ?_;(with_reducible refine (impl_kindOf.calls (l0.length:Int) a2 _ (by omega) (by omega)).mono ?_);rintro e w3 ⟨rfl,⟨n1,rfl⟩⟩;rw [O2.out];refine ⟨_,rfl,?_⟩;refine hK.out _ _ ⟨hHeld.1,⟨pw_below_drewN hHeld.2.1.out _⟩,⟨hHeld.2.2.out⟩⟩ (fun hHeld=>?_);clear hK K;refine nS 22 ?_;refine one_ (i:=9) (N:=some 8) (lA 12 1023) rfl rfl (by kernel_rfl) (by decide) (fun K hK=>?_);refine value_ (w1:=?_) (v:=?_) (by rfl) rfl ?_ ?_;rotate_left 2
       ·go_simp
        constructor
        ·rfl
        ·rfl
       refine hK.out _ _ ⟨(pw_cell_below (below_alloc (Below.refl _ _) _) hHeld.1),⟨zz3⟩,⟨blk_alloc hHeld.2.2.out _⟩⟩ (fun hHeld=>?_);clear hK K;refine nS 8 ?_;exact norm_ zz7 (hCont (W1.heap.size,W1.heap.size+1) _ ⟨(heap_two W1 _ _).1,(heap_two W1 _ _).2,(by simp),zz8,zz8,hHeld⟩)
      ·skip
       refine value_ (w1:=?_) (v:=?_) (by rfl) rfl ?_ ?_;rotate_left 2
       ·go_simp
        constructor
        ·rfl
        ·rfl
       refine hK.out _ _ ⟨(pw_cell_below (below_alloc (Below.refl _ _) _) hHeld.1),⟨zz3⟩,⟨blk_alloc hHeld.2.2.out _⟩⟩ (fun hHeld=>?_);clear hK K;refine nS 8 ?_;refine oS 7 22 (lA 12 1023) rfl rfl (fun K hK=>?_);refine gO Try.func51 #[.int .i64 (l0.length:Int),.int .i64 a2] ?_;(with_reducible refine (impl_kindOf.calls (l0.length:Int) a2 _ (by omega) (by omega)).mono ?_);rintro e w3 ⟨rfl,⟨n1,rfl⟩⟩;rw [O2.out];refine ⟨_,rfl,?_⟩;refine hK.out _ _ ⟨hHeld.1,⟨pw_below_drewN hHeld.2.1.out _⟩,⟨hHeld.2.2.out⟩⟩ (fun hHeld=>?_);clear hK K;refine nS 22 ?_;exact norm_ zz7 (hCont (W1.heap.size,W1.heap.size+1) _ ⟨(heap_two W1 _ _).1,(heap_two W1 _ _).2,(by simp),zz8,zz8,hHeld⟩)
     ·skip
      refine value_ (w1:=?_) (v:=?_) (by rfl) rfl ?_ ?_;rotate_left 2
      ·go_simp
       constructor
       ·rfl
       ·rfl
      refine hK.out _ _ ⟨(pw_cell_below (below_alloc (Below.refl _ _) _) hHeld.1),⟨zz3⟩,⟨blk_alloc hHeld.2.2.out _⟩⟩ (fun hHeld=>?_);clear hK K;refine nS 8 ?_;refine two_ (i:=7) (j:=8) (Ni:=some 22) (Nj:=some 7) (lA 12 767) (lA 12 895) rfl rfl rfl rfl (by kernel_rfl) (by decide) (by decide) (fun K hK=>?_) (fun K hK=>?_)
      ·skip
       refine gO Try.func51 #[.int .i64 (l0.length:Int),.int .i64 a2] ?_;(with_reducible refine (impl_kindOf.calls (l0.length:Int) a2 _ (by omega) (by omega)).mono ?_);rintro e w3 ⟨rfl,⟨n1,rfl⟩⟩;rw [O2.out];refine ⟨_,rfl,?_⟩;refine hK.out _ _ ⟨hHeld.1,⟨pw_below_drewN hHeld.2.1.out _⟩,⟨hHeld.2.2.out⟩⟩ (fun hHeld=>?_);clear hK K;refine nS 22 ?_;refine one_ (i:=8) (N:=some 7) (lA 12 1023) rfl rfl (by kernel_rfl) (by decide) (fun K hK=>?_);refine value_ (w1:=?_) (v:=?_) (by rfl) rfl ?_ ?_;rotate_left 2
       ·go_simp
        constructor
        ·rfl
        ·rfl
       refine hK.out _ _ ⟨(pw_cell_below (below_alloc (Below.refl _ _) _) hHeld.1),⟨zz3⟩,⟨blk_alloc hHeld.2.2.out _⟩⟩ (fun hHeld=>?_);clear hK K;refine nS 7 ?_;exact norm_ zz7 (hCont (W1.heap.size+1,W1.heap.size) _ ⟨(heap_two W1 _ _).2,(heap_two W1 _ _).1,(by simp),zz8,zz8,hHeld⟩)
      ·skip
       refine value_ (w1:=?_) (v:=?_) (by rfl) rfl ?_ ?_;rotate_left 2
       ·go_simp
        constructor
        ·rfl
        ·rfl
       refine hK.out _ _ ⟨(pw_cell_below (below_alloc (Below.refl _ _) _) hHeld.1),⟨zz3⟩,⟨blk_alloc hHeld.2.2.out _⟩⟩ (fun hHeld=>?_);clear hK K;refine nS 7 ?_;refine oS 7 22 (lA 12 1023) rfl rfl (fun K hK=>?_);refine gO Try.func51 #[.int .i64 (l0.length:Int),.int .i64 a2] ?_;(with_reducible refine (impl_kindOf.calls (l0.length:Int) a2 _ (by omega) (by omega)).mono ?_);rintro e w3 ⟨rfl,⟨n1,rfl⟩⟩;rw [O2.out];refine ⟨_,rfl,?_⟩;refine hK.out _ _ ⟨hHeld.1,⟨pw_below_drewN hHeld.2.1.out _⟩,⟨hHeld.2.2.out⟩⟩ (fun hHeld=>?_);clear hK K;refine nS 22 ?_;exact norm_ zz7 (hCont (W1.heap.size+1,W1.heap.size) _ ⟨(heap_two W1 _ _).2,(heap_two W1 _ _).1,(by simp),zz8,zz8,hHeld⟩)
    ·skip
     refine value_ (w1:=?_) (v:=?_) (by rfl) rfl ?_ ?_;rotate_left 2
     ·go_simp
      constructor
      ·rfl
      ·rfl
     refine hK.out _ _ ⟨(pw_cell_below (below_alloc (Below.refl _ _) _) hHeld.1),⟨zz3⟩,⟨blk_alloc hHeld.2.2.out _⟩⟩ (fun hHeld=>?_);clear hK K;refine nS 7 ?_;refine two_ (i:=3) (j:=9) (Ni:=some 18) (Nj:=some 8) (lA 12 383) (lA 12 887) rfl rfl rfl rfl (by kernel_rfl) (by decide) (by decide) (fun K hK=>?_) (fun K hK=>?_)
     ·skip
      refine gO Try.func51 #[.int .i64 (l0.length:Int),.int .i64 a1] ?_;(with_reducible refine (impl_kindOf.calls (l0.length:Int) a1 _ (by omega) (by omega)).mono ?_);rintro e w3 ⟨rfl,⟨n1,rfl⟩⟩;rw [O1.out];refine ⟨_,rfl,?_⟩;refine hK.out _ _ ⟨hHeld.1,⟨pw_below_drewN hHeld.2.1.out _⟩,⟨hHeld.2.2.out⟩⟩ (fun hHeld=>?_);clear hK K;refine nS 18 ?_;refine two_ (i:=7) (j:=9) (Ni:=some 22) (Nj:=some 8) (lA 12 511) (lA 12 895) rfl rfl rfl rfl (by kernel_rfl) (by decide) (by decide) (fun K hK=>?_) (fun K hK=>?_)
      ·skip
       refine gO Try.func51 #[.int .i64 (l0.length:Int),.int .i64 a2] ?_;(with_reducible refine (impl_kindOf.calls (l0.length:Int) a2 _ (by omega) (by omega)).mono ?_);rintro e w3 ⟨rfl,⟨n1,rfl⟩⟩;rw [O2.out];refine ⟨_,rfl,?_⟩;refine hK.out _ _ ⟨hHeld.1,⟨pw_below_drewN hHeld.2.1.out _⟩,⟨hHeld.2.2.out⟩⟩ (fun hHeld=>?_);clear hK K;refine nS 22 ?_;refine one_ (i:=9) (N:=some 8) (lA 12 1023) rfl rfl (by kernel_rfl) (by decide) (fun K hK=>?_);refine value_ (w1:=?_) (v:=?_) (by rfl) rfl ?_ ?_;rotate_left 2
       ·go_simp
        constructor
        ·rfl
        ·rfl
       refine hK.out _ _ ⟨(pw_cell_below (below_alloc (Below.refl _ _) _) hHeld.1),⟨zz3⟩,⟨blk_alloc hHeld.2.2.out _⟩⟩ (fun hHeld=>?_);clear hK K;refine nS 8 ?_;exact norm_ zz7 (hCont (W1.heap.size,W1.heap.size+1) _ ⟨(heap_two W1 _ _).1,(heap_two W1 _ _).2,(by simp),zz8,zz8,hHeld⟩)
      ·skip
       refine value_ (w1:=?_) (v:=?_) (by rfl) rfl ?_ ?_;rotate_left 2
       ·go_simp
        constructor
        ·rfl
        ·rfl
       refine hK.out _ _ ⟨(pw_cell_below (below_alloc (Below.refl _ _) _) hHeld.1),⟨zz3⟩,⟨blk_alloc hHeld.2.2.out _⟩⟩ (fun hHeld=>?_);clear hK K;refine nS 8 ?_;refine oS 7 22 (lA 12 1023) rfl rfl (fun K hK=>?_);refine gO Try.func51 #[.int .i64 (l0.length:Int),.int .i64 a2] ?_;(with_reducible refine (impl_kindOf.calls (l0.length:Int) a2 _ (by omega) (by omega)).mono ?_);rintro e w3 ⟨rfl,⟨n1,rfl⟩⟩;rw [O2.out];refine ⟨_,rfl,?_⟩;refine hK.out _ _ ⟨hHeld.1,⟨pw_below_drewN hHeld.2.1.out _⟩,⟨hHeld.2.2.out⟩⟩ (fun hHeld=>?_);clear hK K;refine nS 22 ?_;exact norm_ zz7 (hCont (W1.heap.size,W1.heap.size+1) _ ⟨(heap_two W1 _ _).1,(heap_two W1 _ _).2,(by simp),zz8,zz8,hHeld⟩)
     ·skip
      refine value_ (w1:=?_) (v:=?_) (by rfl) rfl ?_ ?_;rotate_left 2
      ·go_simp
       constructor
       ·rfl
       ·rfl
      refine hK.out _ _ ⟨(pw_cell_below (below_alloc (Below.refl _ _) _) hHeld.1),⟨zz3⟩,⟨blk_alloc hHeld.2.2.out _⟩⟩ (fun hHeld=>?_);clear hK K;refine nS 8 ?_;refine oS 3 18 (lA 12 895) rfl rfl (fun K hK=>?_);refine gO Try.func51 #[.int .i64 (l0.length:Int),.int .i64 a1] ?_;(with_reducible refine (impl_kindOf.calls (l0.length:Int) a1 _ (by omega) (by omega)).mono ?_);rintro e w3 ⟨rfl,⟨n1,rfl⟩⟩;rw [O1.out];refine ⟨_,rfl,?_⟩;refine hK.out _ _ ⟨hHeld.1,⟨pw_below_drewN hHeld.2.1.out _⟩,⟨hHeld.2.2.out⟩⟩ (fun hHeld=>?_);clear hK K;refine nS 18 ?_;refine oS 7 22 (lA 12 1023) rfl rfl (fun K hK=>?_);refine gO Try.func51 #[.int .i64 (l0.length:Int),.int .i64 a2] ?_;(with_reducible refine (impl_kindOf.calls (l0.length:Int) a2 _ (by omega) (by omega)).mono ?_);rintro e w3 ⟨rfl,⟨n1,rfl⟩⟩;rw [O2.out];refine ⟨_,rfl,?_⟩;refine hK.out _ _ ⟨hHeld.1,⟨pw_below_drewN hHeld.2.1.out _⟩,⟨hHeld.2.2.out⟩⟩ (fun hHeld=>?_);clear hK K;refine nS 22 ?_;exact norm_ zz7 (hCont (W1.heap.size,W1.heap.size+1) _ ⟨(heap_two W1 _ _).1,(heap_two W1 _ _).2,(by simp),zz8,zz8,hHeld⟩)
    ·skip
     refine value_ (w1:=?_) (v:=?_) (by rfl) rfl ?_ ?_;rotate_left 2
     ·go_simp
      constructor
      ·rfl
      ·rfl
     refine hK.out _ _ ⟨(pw_cell_below (below_alloc (Below.refl _ _) _) hHeld.1),⟨zz3⟩,⟨blk_alloc hHeld.2.2.out _⟩⟩ (fun hHeld=>?_);clear hK K;refine nS 8 ?_;refine two_ (i:=3) (j:=8) (Ni:=some 18) (Nj:=some 7) (lA 12 639) (lA 12 887) rfl rfl rfl rfl (by kernel_rfl) (by decide) (by decide) (fun K hK=>?_) (fun K hK=>?_)
     ·skip
      refine gO Try.func51 #[.int .i64 (l0.length:Int),.int .i64 a1] ?_;(with_reducible refine (impl_kindOf.calls (l0.length:Int) a1 _ (by omega) (by omega)).mono ?_);rintro e w3 ⟨rfl,⟨n1,rfl⟩⟩;rw [O1.out];refine ⟨_,rfl,?_⟩;refine hK.out _ _ ⟨hHeld.1,⟨pw_below_drewN hHeld.2.1.out _⟩,⟨hHeld.2.2.out⟩⟩ (fun hHeld=>?_);clear hK K;refine nS 18 ?_;refine two_ (i:=7) (j:=8) (Ni:=some 22) (Nj:=some 7) (lA 12 767) (lA 12 895) rfl rfl rfl rfl (by kernel_rfl) (by decide) (by decide) (fun K hK=>?_) (fun K hK=>?_)
      ·skip
       refine gO Try.func51 #[.int .i64 (l0.length:Int),.int .i64 a2] ?_;(with_reducible refine (impl_kindOf.calls (l0.length:Int) a2 _ (by omega) (by omega)).mono ?_);rintro e w3 ⟨rfl,⟨n1,rfl⟩⟩;rw [O2.out];refine ⟨_,rfl,?_⟩;refine hK.out _ _ ⟨hHeld.1,⟨pw_below_drewN hHeld.2.1.out _⟩,⟨hHeld.2.2.out⟩⟩ (fun hHeld=>?_);clear hK K;refine nS 22 ?_;refine one_ (i:=8) (N:=some 7) (lA 12 1023) rfl rfl (by kernel_rfl) (by decide) (fun K hK=>?_);refine value_ (w1:=?_) (v:=?_) (by rfl) rfl ?_ ?_;rotate_left 2
       ·go_simp
        constructor
        ·rfl
        ·rfl
       refine hK.out _ _ ⟨(pw_cell_below (below_alloc (Below.refl _ _) _) hHeld.1),⟨zz3⟩,⟨blk_alloc hHeld.2.2.out _⟩⟩ (fun hHeld=>?_);clear hK K;refine nS 7 ?_;exact norm_ zz7 (hCont (W1.heap.size+1,W1.heap.size) _ ⟨(heap_two W1 _ _).2,(heap_two W1 _ _).1,(by simp),zz8,zz8,hHeld⟩)
      ·skip
       refine value_ (w1:=?_) (v:=?_) (by rfl) rfl ?_ ?_;rotate_left 2
       ·go_simp
        constructor
        ·rfl
        ·rfl
       refine hK.out _ _ ⟨(pw_cell_below (below_alloc (Below.refl _ _) _) hHeld.1),⟨zz3⟩,⟨blk_alloc hHeld.2.2.out _⟩⟩ (fun hHeld=>?_);clear hK K;refine nS 7 ?_;refine oS 7 22 (lA 12 1023) rfl rfl (fun K hK=>?_);refine gO Try.func51 #[.int .i64 (l0.length:Int),.int .i64 a2] ?_;(with_reducible refine (impl_kindOf.calls (l0.length:Int) a2 _ (by omega) (by omega)).mono ?_);rintro e w3 ⟨rfl,⟨n1,rfl⟩⟩;rw [O2.out];refine ⟨_,rfl,?_⟩;refine hK.out _ _ ⟨hHeld.1,⟨pw_below_drewN hHeld.2.1.out _⟩,⟨hHeld.2.2.out⟩⟩ (fun hHeld=>?_);clear hK K;refine nS 22 ?_;exact norm_ zz7 (hCont (W1.heap.size+1,W1.heap.size) _ ⟨(heap_two W1 _ _).2,(heap_two W1 _ _).1,(by simp),zz8,zz8,hHeld⟩)
     ·skip
      refine value_ (w1:=?_) (v:=?_) (by rfl) rfl ?_ ?_;rotate_left 2
      ·go_simp
       constructor
       ·rfl
       ·rfl
      refine hK.out _ _ ⟨(pw_cell_below (below_alloc (Below.refl _ _) _) hHeld.1),⟨zz3⟩,⟨blk_alloc hHeld.2.2.out _⟩⟩ (fun hHeld=>?_);clear hK K;refine nS 7 ?_;refine oS 3 18 (lA 12 895) rfl rfl (fun K hK=>?_);refine gO Try.func51 #[.int .i64 (l0.length:Int),.int .i64 a1] ?_;(with_reducible refine (impl_kindOf.calls (l0.length:Int) a1 _ (by omega) (by omega)).mono ?_);rintro e w3 ⟨rfl,⟨n1,rfl⟩⟩;rw [O1.out];refine ⟨_,rfl,?_⟩;refine hK.out _ _ ⟨hHeld.1,⟨pw_below_drewN hHeld.2.1.out _⟩,⟨hHeld.2.2.out⟩⟩ (fun hHeld=>?_);clear hK K;refine nS 18 ?_;refine oS 7 22 (lA 12 1023) rfl rfl (fun K hK=>?_);refine gO Try.func51 #[.int .i64 (l0.length:Int),.int .i64 a2] ?_;(with_reducible refine (impl_kindOf.calls (l0.length:Int) a2 _ (by omega) (by omega)).mono ?_);rintro e w3 ⟨rfl,⟨n1,rfl⟩⟩;rw [O2.out];refine ⟨_,rfl,?_⟩;refine hK.out _ _ ⟨hHeld.1,⟨pw_below_drewN hHeld.2.1.out _⟩,⟨hHeld.2.2.out⟩⟩ (fun hHeld=>?_);clear hK K;refine nS 22 ?_;exact norm_ zz7 (hCont (W1.heap.size+1,W1.heap.size) _ ⟨(heap_two W1 _ _).2,(heap_two W1 _ _).1,(by simp),zz8,zz8,hHeld⟩)
   rintro ⟨p7,p8⟩ w2 ⟨hb7,hb8,hne,hg7,hg8,hHeld⟩;have cb7:=(blk_cell hb7 0).trans rfl;have fb7:=blk_frozen hb7 0;have cb8:=(blk_cell hb8 0).trans rfl;have fb8:=blk_frozen hb8 0;have HB7:=aK hb7;have HB8:=aK hb8;clear hb7 hb8;refine norm_ (a':=?_) ?_ ?_;rotate_left
   ·simp only [putAll, Act.put, List.setIfInBounds_toArray, List.set_cons_zero, List.set_cons_succ]
    rfl
   refine one_ (i:=10) (N:=none) (lA 12 2047) rfl rfl (by kernel_rfl) (by decide) (fun K hK=>?_);refine skip_ (w1:=?_) (by rfl) rfl ?_ ?_;rotate_left
   ·go_simp
    rfl
   refine hK.out _ _ ⟨((blk_cell (blk_far hHeld.2.2.out (by show w.heap.size≠p7;omega) _) 0).trans rfl),⟨below_set hHeld.2.1.out (by omega)⟩,⟨blk_far hHeld.2.2.out (by show w.heap.size≠p7;omega) _⟩⟩ (fun hHeld=>?_);clear hK K;refine one_ (i:=11) (N:=none) (lA 12 4095) rfl rfl (by kernel_rfl) (by decide) (fun K hK=>?_);refine skip_ (w1:=?_) (by rfl) rfl ?_ ?_;rotate_left
   ·go_simp
    rfl
   refine hK.out _ _ ⟨((blk_cell (blk_far hHeld.2.2.out (by show w.heap.size≠p8;omega) _) 0).trans rfl),⟨below_set hHeld.2.1.out (by omega)⟩,⟨blk_far hHeld.2.2.out (by show w.heap.size≠p8;omega) _⟩⟩ (fun hHeld=>?_);clear hK K;refine done_ (by kernel_rfl) ?_;have X7:Aside0 (((w2.setCell ⟨p7,0,none⟩ (.nilIface)).setCell ⟨p8,0,none⟩ (.nilIface)).heap[p7]? =some (.cells #[.nilIface] 70 (0,0))):=⟨blk_far (blk_put HB7.out 0 (.nilIface) rfl) hne _⟩
   have X8:Aside0 (((w2.setCell ⟨p7,0,none⟩ (.nilIface)).setCell ⟨p8,0,none⟩ (.nilIface)).heap[p8]? =some (.cells #[.nilIface] 70 (0,0))):=⟨blk_put (blk_far HB8.out (fun z=>hne z.symm) _) 0 (.nilIface) rfl⟩
   clear cb7 fb7 cb8 fb8 HB7 HB8;generalize ((w2.setCell ⟨p7,0,none⟩ (.nilIface)).setCell ⟨p8,0,none⟩ (.nilIface))=W3 at X7 X8 hHeld ⊢;obtain ⟨cg,HB3,HG3⟩:=hHeld;have c7:=(blk_cell X7.out 0).trans rfl;have c8:=(blk_cell X8.out 0).trans rfl;go_wp2;go_ret;exact ⟨by rw [←Option.some.inj hx.out];rfl,HB3.out⟩
end Go.Proofs.Ytehefmgplkolaaa.K
