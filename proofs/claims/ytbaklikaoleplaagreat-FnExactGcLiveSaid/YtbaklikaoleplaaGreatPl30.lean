import Derived.Test.YtbaklikaoleplaaGreatPl24
import Derived.Test.YtbaklikaoleplaaGreatPl29
import Derived.Test.YtbaklikaoleplaaGreatPl28
set_option maxHeartbeats 16000000
set_option maxRecDepth 100000
namespace Go.Proofs.YtbaklikaoleplaaGreat.K
open Go.RowKit Go.Proofs.YtbaklikaoleplaaGreatW.PrintWords Go.Proofs.YtbaklikaoleplaaGreatW.PrintLast Go.Proofs.YtbaklikaoleplaaGreatW.PrintMore
attribute [local go_sem] gV gT jT jS fY fX gU gR
set_option linter.unusedVariables false
set_option linter.unusedSimpArgs false
theorem dV (a b c:Int):dO a b c=some (decide (a≤b∧b≤c)):=by
 unfold dO
 split
 ·rename_i h;simp [h]
 ·rename_i h;simp [h]
def tN (o:Int):Int:=wrap64 (Int.tdiv (wrap64 ((wrap64 (o+4)) - 1)) 4)
def pV (l0:List Int) (a1 a2 a3:Int) (l4:List Bool):Nat→Bool
 |0=>decide (0≤a1∧a1≤40)
 |1=>decide (14≤wrap64 (l0.length - a1)∧wrap64 (l0.length - a1)≤120)
 |2=>decide (0≤a2∧a2≤a1)
 |3=>decide (a1≤a3∧a3≤l0.length)
 |4=>((l4.length:Int)==tN (wrap64 (l0.length - a1)))
 |5=>((l0.take a1.toNat).drop a2.toNat).all (· ==0)
 |_=>((l0.drop a1.toNat).drop (a3 - a1).toNat).all (· ==0)
def jW (l0:List Int) (a1 a2 a3:Int) (l4:List Bool):Option Bool:=if l0.length≤281474976710656 then some
  (pV l0 a1 a2 a3 l4 0&&pV l0 a1 a2 a3 l4 1&&pV l0 a1 a2 a3 l4 2&&pV l0 a1 a2 a3 l4 3&&pV l0 a1 a2 a3 l4 4&&pV l0 a1 a2 a3 l4 5&&pV l0 a1 a2 a3 l4 6) else none
theorem vY (A0:Option Addr) (c0:Nat) (l0:List Int) (a1 a2 a3:Int) (A4:Option Addr) (c4:Nat) (l4:List Bool) (r:Bool) (w:World) (hr0:Kd.C (Kd.int .i64) w A0 l0.length l0) (hc0:l0.length≤c0) (h:jW l0 a1 a2 a3 l4=some r):
  Calls Tryz.prog 91 #[.agg #[.slice A0 l0.length c0,.int .i64 a1,.int .i64 a2,.int .i64 a3,.slice A4 l4.length c4]] w fun e w'=>e= .returned (.bool r)∧Below w.heap.size w w':=by
 unfold jW at h
 split at h
 case isFalse=>simp at h
 case isTrue hl=>
 have HR:=aK (bC h);have HR0:=aK hr0;have HC0:=aK hc0;have HL:=aK hl;obtain ⟨o,ho⟩: ∃o,o=wrap64 ((l0.length:Int) - a1):=⟨_,rfl⟩;have HO:=aK ho;have q0:IntKind.i64.wrap ((l0.length:Int) - a1)=o:=by rw [ho,mC]
 have HB:=aK (bI (bQ w.heap.size w) (.cells #[.slice A0 l0.length c0,.int .i64 a1,.int .i64 a2,.int .i64 a3,.slice A4 l4.length c4] 27 (0,0)));have x0:(w.alloc (.cells #[.slice A0 l0.length c0,.int .i64 a1,.int .i64 a2,.int .i64 a3,.slice A4 l4.length c4] 27 (0,0))).cell? ⟨w.heap.size,0,none⟩=some (.slice A0 l0.length c0):=(bK (pX _ _) 0).trans rfl
 have x1:(w.alloc (.cells #[.slice A0 l0.length c0,.int .i64 a1,.int .i64 a2,.int .i64 a3,.slice A4 l4.length c4] 27 (0,0))).cell? ⟨w.heap.size,1,none⟩=some (.int .i64 a1):=(bK (pX _ _) 1).trans rfl
 have x2:(w.alloc (.cells #[.slice A0 l0.length c0,.int .i64 a1,.int .i64 a2,.int .i64 a3,.slice A4 l4.length c4] 27 (0,0))).cell? ⟨w.heap.size,2,none⟩=some (.int .i64 a2):=(bK (pX _ _) 2).trans rfl
 have x3:(w.alloc (.cells #[.slice A0 l0.length c0,.int .i64 a1,.int .i64 a2,.int .i64 a3,.slice A4 l4.length c4] 27 (0,0))).cell? ⟨w.heap.size,3,none⟩=some (.int .i64 a3):=(bK (pX _ _) 3).trans rfl
 have x4:(w.alloc (.cells #[.slice A0 l0.length c0,.int .i64 a1,.int .i64 a2,.int .i64 a3,.slice A4 l4.length c4] 27 (0,0))).cell? ⟨w.heap.size,4,none⟩=some (.slice A4 l4.length c4):=(bK (pX _ _) 4).trans rfl
 clear h hr0 hc0 hl ho
 cases h0:pV l0 a1 a2 a3 l4 0 with
 |false=>
  have B0:=aK h0;clear h0;have W1:=aK (show dO 0 a1 40=some false by rw [dV];exact dY some (by have:=B0.out;unfold pV at this;exact this));have HZ:=aK (show false=r by rw [←HR.out,B0.out];rfl);clear B0;go_enter Tryz.func91,Tryz.ntmps91;go_wp2;refine sT 56 (S:=fun w'=>Aside0 (Below w.heap.size w w')∧w'.cell? ⟨w.heap.size,0,none⟩=some (.slice A0 l0.length c0)∧w'.cell? ⟨w.heap.size,1,none⟩=some (.int .i64 a1)∧w'.cell? ⟨w.heap.size,2,none⟩=some (.int .i64 a2)∧w'.cell? ⟨w.heap.size,3,none⟩=some (.int .i64 a3)∧w'.cell? ⟨w.heap.size,4,none⟩=some (.slice A4 l4.length c4)) (ds:=[]) ⟨⟨bH HB.out⟩,(by go_simp),(by go_simp),(by go_simp),(by go_simp),(by go_simp)⟩ (fun hHeld=>?_);refine dL 0 ?_;refine tS 1 12 (lA 56 3) rfl rfl (by kernel_rfl) hHeld pD ?_;refine oS 2 13 (lA 56 7) rfl rfl (fun K hK=>?_);refine gO Tryz.func136 #[.int .i64 0,.int .i64 a1,.int .i64 40] ?_;(with_reducible refine (dB 0 a1 40 false _ W1.out).mono ?_);rintro e w3 ⟨rfl,⟨n1,rfl⟩⟩;refine ⟨_,rfl,?_⟩;refine hK.out _ _ ⟨⟨bF hHeld.1.out _⟩,hHeld.2⟩ (fun hHeld=>?_);clear hK K;refine nS 13 ?_;refine dL 3 ?_;refine fN 4 ?_;refine fN 5 ?_;refine dL 6 ?_;refine dL 7 ?_;refine fN 8 ?_;refine fN 9 ?_;refine fN 10 ?_;refine fN 11 ?_;refine fN 12 ?_;refine dL 13 ?_;refine dL 14 ?_;refine fN 15 ?_;refine fN 16 ?_;refine fN 17 ?_;refine fN 18 ?_;refine fN 19 ?_;refine fN 20 ?_;refine fN 21 ?_;refine fN 22 ?_;refine dL 23 ?_;refine dL 24 ?_;refine fN 25 ?_;refine fN 26 ?_;refine fN 27 ?_;refine fN 28 ?_;refine fN 29 ?_;refine fN 30 ?_;refine dL 31 ?_;refine dL 32 ?_;refine fN 33 ?_;refine fN 34 ?_;refine fN 35 ?_;refine fN 36 ?_;refine fN 37 ?_;refine fN 38 ?_;refine fN 39 ?_;refine fN 40 ?_;refine dL 41 ?_;refine dL 42 ?_;refine fN 43 ?_;refine fN 44 ?_;refine fN 45 ?_;refine fN 46 ?_;refine fN 47 ?_;refine fN 48 ?_;refine fN 49 ?_;refine fN 50 ?_;refine fN 51 ?_;refine fN 52 ?_;refine fN 53 ?_;refine dL 54 ?_;refine dL 55 ?_;refine kX (by kernel_rfl) ?_;go_wp2;go_ret;exact ⟨by rw [←HZ.out];rfl,hHeld.1.out⟩
 |true=>
 have B0:=aK h0;clear h0
 cases h1:pV l0 a1 a2 a3 l4 1 with
 |false=>
  have B1:=aK h1;clear h1;have W1:=aK (show dO 0 a1 40=some true by rw [dV];exact dY some (by have:=B0.out;unfold pV at this;exact this));have W2:=aK (show dO 14 o 120=some false by rw [dV];exact dY some bHw);have HZ:=aK (show false=r by rw [←HR.out,B0.out,B1.out];rfl);clear B0 B1;go_enter Tryz.func91,Tryz.ntmps91;go_wp2;refine sT 56 (S:=fun w'=>Aside0 (Below w.heap.size w w')∧w'.cell? ⟨w.heap.size,0,none⟩=some (.slice A0 l0.length c0)∧w'.cell? ⟨w.heap.size,1,none⟩=some (.int .i64 a1)∧w'.cell? ⟨w.heap.size,2,none⟩=some (.int .i64 a2)∧w'.cell? ⟨w.heap.size,3,none⟩=some (.int .i64 a3)∧w'.cell? ⟨w.heap.size,4,none⟩=some (.slice A4 l4.length c4)) (ds:=[]) ⟨⟨bH HB.out⟩,(by go_simp),(by go_simp),(by go_simp),(by go_simp),(by go_simp)⟩ (fun hHeld=>?_);refine dL 0 ?_;refine tS 1 12 (lA 56 3) rfl rfl (by kernel_rfl) hHeld pD ?_;refine oS 2 13 (lA 56 7) rfl rfl (fun K hK=>?_);refine gO Tryz.func136 #[.int .i64 0,.int .i64 a1,.int .i64 40] ?_;(with_reducible refine (dB 0 a1 40 true _ W1.out).mono ?_);rintro e w3 ⟨rfl,⟨n1,rfl⟩⟩;refine ⟨_,rfl,?_⟩;refine hK.out _ _ ⟨⟨bF hHeld.1.out _⟩,hHeld.2⟩ (fun hHeld=>?_);clear hK K;refine nS 13 ?_;refine dL 3 ?_;refine dL 4 ?_;refine oS 5 16 (lA 56 63) rfl rfl (fun K hK=>?_);refine gO Tryz.func136 #[.int .i64 14,.int .i64 o,.int .i64 120] ?_;(with_reducible refine (dB 14 o 120 false _ W2.out).mono ?_);rintro e w3 ⟨rfl,⟨n1,rfl⟩⟩;refine ⟨_,rfl,?_⟩;refine hK.out _ _ ⟨⟨bF hHeld.1.out _⟩,hHeld.2⟩ (fun hHeld=>?_);clear hK K;refine nS 16 ?_;refine dL 6 ?_;refine dL 7 ?_;refine fN 8 ?_;refine fN 9 ?_;refine fN 10 ?_;refine fN 11 ?_;refine fN 12 ?_;refine dL 13 ?_;refine dL 14 ?_;refine fN 15 ?_;refine fN 16 ?_;refine fN 17 ?_;refine fN 18 ?_;refine fN 19 ?_;refine fN 20 ?_;refine fN 21 ?_;refine fN 22 ?_;refine dL 23 ?_;refine dL 24 ?_;refine fN 25 ?_;refine fN 26 ?_;refine fN 27 ?_;refine fN 28 ?_;refine fN 29 ?_;refine fN 30 ?_;refine dL 31 ?_;refine dL 32 ?_;refine fN 33 ?_;refine fN 34 ?_;refine fN 35 ?_;refine fN 36 ?_;refine fN 37 ?_;refine fN 38 ?_;refine fN 39 ?_;refine fN 40 ?_;refine dL 41 ?_;refine dL 42 ?_;refine fN 43 ?_;refine fN 44 ?_;refine fN 45 ?_;refine fN 46 ?_;refine fN 47 ?_;refine fN 48 ?_;refine fN 49 ?_;refine fN 50 ?_;refine fN 51 ?_;refine fN 52 ?_;refine fN 53 ?_;refine dL 54 ?_;refine dL 55 ?_;refine kX (by kernel_rfl) ?_;go_wp2;go_ret;exact ⟨by rw [←HZ.out];rfl,hHeld.1.out⟩
 |true=>
 have B1:=aK h1;clear h1
 cases h2:pV l0 a1 a2 a3 l4 2 with
 |false=>
  have B2:=aK h2;clear h2;have W1:=aK (show dO 0 a1 40=some true by rw [dV];exact dY some (by have:=B0.out;unfold pV at this;exact this));have W2:=aK (show dO 14 o 120=some true by rw [dV];exact dY some bHw);have W3:=aK (show dO 0 a2 a1=some false by rw [dV];exact dY some (by have:=B2.out;unfold pV at this;exact this));have HZ:=aK (show false=r by rw [←HR.out,B0.out,B1.out,B2.out];rfl);clear B0 B1 B2;go_enter Tryz.func91,Tryz.ntmps91;go_wp2;refine sT 56 (S:=fun w'=>Aside0 (Below w.heap.size w w')∧w'.cell? ⟨w.heap.size,0,none⟩=some (.slice A0 l0.length c0)∧w'.cell? ⟨w.heap.size,1,none⟩=some (.int .i64 a1)∧w'.cell? ⟨w.heap.size,2,none⟩=some (.int .i64 a2)∧w'.cell? ⟨w.heap.size,3,none⟩=some (.int .i64 a3)∧w'.cell? ⟨w.heap.size,4,none⟩=some (.slice A4 l4.length c4)) (ds:=[]) ⟨⟨bH HB.out⟩,(by go_simp),(by go_simp),(by go_simp),(by go_simp),(by go_simp)⟩ (fun hHeld=>?_);refine dL 0 ?_;refine tS 1 12 (lA 56 3) rfl rfl (by kernel_rfl) hHeld pD ?_;refine oS 2 13 (lA 56 7) rfl rfl (fun K hK=>?_);refine gO Tryz.func136 #[.int .i64 0,.int .i64 a1,.int .i64 40] ?_;(with_reducible refine (dB 0 a1 40 true _ W1.out).mono ?_);rintro e w3 ⟨rfl,⟨n1,rfl⟩⟩;refine ⟨_,rfl,?_⟩;refine hK.out _ _ ⟨⟨bF hHeld.1.out _⟩,hHeld.2⟩ (fun hHeld=>?_);clear hK K;refine nS 13 ?_;refine dL 3 ?_;refine dL 4 ?_;refine oS 5 16 (lA 56 63) rfl rfl (fun K hK=>?_);refine gO Tryz.func136 #[.int .i64 14,.int .i64 o,.int .i64 120] ?_;(with_reducible refine (dB 14 o 120 true _ W2.out).mono ?_);rintro e w3 ⟨rfl,⟨n1,rfl⟩⟩;refine ⟨_,rfl,?_⟩;refine hK.out _ _ ⟨⟨bF hHeld.1.out _⟩,hHeld.2⟩ (fun hHeld=>?_);clear hK K;refine nS 16 ?_;refine dL 6 ?_;refine dL 7 ?_;refine dL 8 ?_;refine dL 10 ?_;refine tS 9 20 (lA 56 2047) rfl rfl (by kernel_rfl) hHeld pD ?_;refine tS 11 22 (lA 56 4095) rfl rfl (by kernel_rfl) hHeld pD ?_;refine oS 12 23 (lA 56 8191) rfl rfl (fun K hK=>?_);refine gO Tryz.func136 #[.int .i64 0,.int .i64 a2,.int .i64 a1] ?_;(with_reducible refine (dB 0 a2 a1 false _ W3.out).mono ?_);rintro e w3 ⟨rfl,⟨n1,rfl⟩⟩;refine ⟨_,rfl,?_⟩;refine hK.out _ _ ⟨⟨bF hHeld.1.out _⟩,hHeld.2⟩ (fun hHeld=>?_);clear hK K;refine nS 23 ?_;refine dL 13 ?_;refine dL 14 ?_;refine fN 15 ?_;refine fN 16 ?_;refine fN 17 ?_;refine fN 18 ?_;refine fN 19 ?_;refine fN 20 ?_;refine fN 21 ?_;refine fN 22 ?_;refine dL 23 ?_;refine dL 24 ?_;refine fN 25 ?_;refine fN 26 ?_;refine fN 27 ?_;refine fN 28 ?_;refine fN 29 ?_;refine fN 30 ?_;refine dL 31 ?_;refine dL 32 ?_;refine fN 33 ?_;refine fN 34 ?_;refine fN 35 ?_;refine fN 36 ?_;refine fN 37 ?_;refine fN 38 ?_;refine fN 39 ?_;refine fN 40 ?_;refine dL 41 ?_;refine dL 42 ?_;refine fN 43 ?_;refine fN 44 ?_;refine fN 45 ?_;refine fN 46 ?_;refine fN 47 ?_;refine fN 48 ?_;refine fN 49 ?_;refine fN 50 ?_;refine fN 51 ?_;refine fN 52 ?_;refine fN 53 ?_;refine dL 54 ?_;refine dL 55 ?_;refine kX (by kernel_rfl) ?_;go_wp2;go_ret;exact ⟨by rw [←HZ.out];rfl,hHeld.1.out⟩
 |true=>
 have B2:=aK h2;clear h2
 cases h3:pV l0 a1 a2 a3 l4 3 with
 |false=>
  have B3:=aK h3;clear h3;have W1:=aK (show dO 0 a1 40=some true by rw [dV];exact dY some (by have:=B0.out;unfold pV at this;exact this));have W2:=aK (show dO 14 o 120=some true by rw [dV];exact dY some bHw);have W3:=aK (show dO 0 a2 a1=some true by rw [dV];exact dY some (by have:=B2.out;unfold pV at this;exact this));have W4:=aK (show dO a1 a3 (l0.length:Int)=some false by rw [dV];exact dY some (by have:=B3.out;unfold pV at this;exact this));have HZ:=aK (show false=r by rw [←HR.out,B0.out,B1.out,B2.out,B3.out];rfl);clear B0 B1 B2 B3;go_enter Tryz.func91,Tryz.ntmps91;go_wp2;refine sT 56 (S:=fun w'=>Aside0 (Below w.heap.size w w')∧w'.cell? ⟨w.heap.size,0,none⟩=some (.slice A0 l0.length c0)∧w'.cell? ⟨w.heap.size,1,none⟩=some (.int .i64 a1)∧w'.cell? ⟨w.heap.size,2,none⟩=some (.int .i64 a2)∧w'.cell? ⟨w.heap.size,3,none⟩=some (.int .i64 a3)∧w'.cell? ⟨w.heap.size,4,none⟩=some (.slice A4 l4.length c4)) (ds:=[]) ⟨⟨bH HB.out⟩,(by go_simp),(by go_simp),(by go_simp),(by go_simp),(by go_simp)⟩ (fun hHeld=>?_);refine dL 0 ?_;refine tS 1 12 (lA 56 3) rfl rfl (by kernel_rfl) hHeld pD ?_;refine oS 2 13 (lA 56 7) rfl rfl (fun K hK=>?_);refine gO Tryz.func136 #[.int .i64 0,.int .i64 a1,.int .i64 40] ?_;(with_reducible refine (dB 0 a1 40 true _ W1.out).mono ?_);rintro e w3 ⟨rfl,⟨n1,rfl⟩⟩;refine ⟨_,rfl,?_⟩;refine hK.out _ _ ⟨⟨bF hHeld.1.out _⟩,hHeld.2⟩ (fun hHeld=>?_);clear hK K;refine nS 13 ?_;refine dL 3 ?_;refine dL 4 ?_;refine oS 5 16 (lA 56 63) rfl rfl (fun K hK=>?_);refine gO Tryz.func136 #[.int .i64 14,.int .i64 o,.int .i64 120] ?_;(with_reducible refine (dB 14 o 120 true _ W2.out).mono ?_);rintro e w3 ⟨rfl,⟨n1,rfl⟩⟩;refine ⟨_,rfl,?_⟩;refine hK.out _ _ ⟨⟨bF hHeld.1.out _⟩,hHeld.2⟩ (fun hHeld=>?_);clear hK K;refine nS 16 ?_;refine dL 6 ?_;refine dL 7 ?_;refine dL 8 ?_;refine dL 10 ?_;refine tS 9 20 (lA 56 2047) rfl rfl (by kernel_rfl) hHeld pD ?_;refine tS 11 22 (lA 56 4095) rfl rfl (by kernel_rfl) hHeld pD ?_;refine oS 12 23 (lA 56 8191) rfl rfl (fun K hK=>?_);refine gO Tryz.func136 #[.int .i64 0,.int .i64 a2,.int .i64 a1] ?_;(with_reducible refine (dB 0 a2 a1 true _ W3.out).mono ?_);rintro e w3 ⟨rfl,⟨n1,rfl⟩⟩;refine ⟨_,rfl,?_⟩;refine hK.out _ _ ⟨⟨bF hHeld.1.out _⟩,hHeld.2⟩ (fun hHeld=>?_);clear hK K;refine nS 23 ?_;refine dL 13 ?_;refine dL 14 ?_;refine dL 15 ?_;refine dL 17 ?_;refine dL 19 ?_;refine tS 16 27 (lA 56 786431) rfl rfl (by kernel_rfl) hHeld pD ?_;refine tS 18 29 (lA 56 1048575) rfl rfl (by kernel_rfl) hHeld pD ?_;refine tS 20 31 (lA 56 2097151) rfl rfl (by kernel_rfl) hHeld pD ?_;refine dL 21 ?_;refine oS 22 33 (lA 56 8388607) rfl rfl (fun K hK=>?_);refine gO Tryz.func136 #[.int .i64 a1,.int .i64 a3,.int .i64 (l0.length:Int)] ?_;(with_reducible refine (dB a1 a3 (l0.length:Int) false _ W4.out).mono ?_);rintro e w3 ⟨rfl,⟨n1,rfl⟩⟩;refine ⟨_,rfl,?_⟩;refine hK.out _ _ ⟨⟨bF hHeld.1.out _⟩,hHeld.2⟩ (fun hHeld=>?_);clear hK K;refine nS 33 ?_;refine dL 23 ?_;refine dL 24 ?_;refine fN 25 ?_;refine fN 26 ?_;refine fN 27 ?_;refine fN 28 ?_;refine fN 29 ?_;refine fN 30 ?_;refine dL 31 ?_;refine dL 32 ?_;refine fN 33 ?_;refine fN 34 ?_;refine fN 35 ?_;refine fN 36 ?_;refine fN 37 ?_;refine fN 38 ?_;refine fN 39 ?_;refine fN 40 ?_;refine dL 41 ?_;refine dL 42 ?_;refine fN 43 ?_;refine fN 44 ?_;refine fN 45 ?_;refine fN 46 ?_;refine fN 47 ?_;refine fN 48 ?_;refine fN 49 ?_;refine fN 50 ?_;refine fN 51 ?_;refine fN 52 ?_;refine fN 53 ?_;refine dL 54 ?_;refine dL 55 ?_;refine kX (by kernel_rfl) ?_;go_wp2;go_ret;exact ⟨by rw [←HZ.out];rfl,hHeld.1.out⟩
 |true=>
 have B3:=aK h3;clear h3
 cases h4:pV l0 a1 a2 a3 l4 4 with
 |false=>
  have B4:=aK h4;clear h4;have W1:=aK (show dO 0 a1 40=some true by rw [dV];exact dY some (by have:=B0.out;unfold pV at this;exact this));have W2:=aK (show dO 14 o 120=some true by rw [dV];exact dY some bHw);have W3:=aK (show dO 0 a2 a1=some true by rw [dV];exact dY some (by have:=B2.out;unfold pV at this;exact this));have W4:=aK (show dO a1 a3 (l0.length:Int)=some true by rw [dV];exact dY some (by have:=B3.out;unfold pV at this;exact this));obtain ⟨cn,hcn⟩: ∃cn,cn=tN o:=⟨_,rfl⟩;have W5:=aK (show qR o=some cn by rw [hcn];rfl);have e5:((l4.length:Int)==cn)=false:=by have:=B4.out;unfold pV at this;rw [hcn,HO.out];exact this
  clear hcn;have HZ:=aK (show false=r by rw [←HR.out,B0.out,B1.out,B2.out,B3.out,B4.out];rfl);clear B0 B1 B2 B3 B4;go_enter Tryz.func91,Tryz.ntmps91;go_wp2;refine sT 56 (S:=fun w'=>Aside0 (Below w.heap.size w w')∧w'.cell? ⟨w.heap.size,0,none⟩=some (.slice A0 l0.length c0)∧w'.cell? ⟨w.heap.size,1,none⟩=some (.int .i64 a1)∧w'.cell? ⟨w.heap.size,2,none⟩=some (.int .i64 a2)∧w'.cell? ⟨w.heap.size,3,none⟩=some (.int .i64 a3)∧w'.cell? ⟨w.heap.size,4,none⟩=some (.slice A4 l4.length c4)) (ds:=[]) ⟨⟨bH HB.out⟩,(by go_simp),(by go_simp),(by go_simp),(by go_simp),(by go_simp)⟩ (fun hHeld=>?_);refine dL 0 ?_;refine tS 1 12 (lA 56 3) rfl rfl (by kernel_rfl) hHeld pD ?_;refine oS 2 13 (lA 56 7) rfl rfl (fun K hK=>?_);refine gO Tryz.func136 #[.int .i64 0,.int .i64 a1,.int .i64 40] ?_;(with_reducible refine (dB 0 a1 40 true _ W1.out).mono ?_);rintro e w3 ⟨rfl,⟨n1,rfl⟩⟩;refine ⟨_,rfl,?_⟩;refine hK.out _ _ ⟨⟨bF hHeld.1.out _⟩,hHeld.2⟩ (fun hHeld=>?_);clear hK K;refine nS 13 ?_;refine dL 3 ?_;refine dL 4 ?_;refine oS 5 16 (lA 56 63) rfl rfl (fun K hK=>?_);refine gO Tryz.func136 #[.int .i64 14,.int .i64 o,.int .i64 120] ?_;(with_reducible refine (dB 14 o 120 true _ W2.out).mono ?_);rintro e w3 ⟨rfl,⟨n1,rfl⟩⟩;refine ⟨_,rfl,?_⟩;refine hK.out _ _ ⟨⟨bF hHeld.1.out _⟩,hHeld.2⟩ (fun hHeld=>?_);clear hK K;refine nS 16 ?_;refine dL 6 ?_;refine dL 7 ?_;refine dL 8 ?_;refine dL 10 ?_;refine tS 9 20 (lA 56 2047) rfl rfl (by kernel_rfl) hHeld pD ?_;refine tS 11 22 (lA 56 4095) rfl rfl (by kernel_rfl) hHeld pD ?_;refine oS 12 23 (lA 56 8191) rfl rfl (fun K hK=>?_);refine gO Tryz.func136 #[.int .i64 0,.int .i64 a2,.int .i64 a1] ?_;(with_reducible refine (dB 0 a2 a1 true _ W3.out).mono ?_);rintro e w3 ⟨rfl,⟨n1,rfl⟩⟩;refine ⟨_,rfl,?_⟩;refine hK.out _ _ ⟨⟨bF hHeld.1.out _⟩,hHeld.2⟩ (fun hHeld=>?_);clear hK K;refine nS 23 ?_;refine dL 13 ?_;refine dL 14 ?_;refine dL 15 ?_;refine dL 17 ?_;refine dL 19 ?_;refine tS 16 27 (lA 56 786431) rfl rfl (by kernel_rfl) hHeld pD ?_;refine tS 18 29 (lA 56 1048575) rfl rfl (by kernel_rfl) hHeld pD ?_;refine tS 20 31 (lA 56 2097151) rfl rfl (by kernel_rfl) hHeld pD ?_;refine dL 21 ?_;refine oS 22 33 (lA 56 8388607) rfl rfl (fun K hK=>?_);refine gO Tryz.func136 #[.int .i64 a1,.int .i64 a3,.int .i64 (l0.length:Int)] ?_;(with_reducible refine (dB a1 a3 (l0.length:Int) true _ W4.out).mono ?_);rintro e w3 ⟨rfl,⟨n1,rfl⟩⟩;refine ⟨_,rfl,?_⟩;refine hK.out _ _ ⟨⟨bF hHeld.1.out _⟩,hHeld.2⟩ (fun hHeld=>?_);clear hK K;refine nS 33 ?_;refine dL 23 ?_;refine dL 24 ?_;refine dL 25 ?_;refine dL 28 ?_;refine tS 26 37 (lA 56 402653183) rfl rfl (by kernel_rfl) hHeld pD ?_;refine dL 27 ?_;refine oS 29 40 (lA 56 1073741823) rfl rfl (fun K hK=>?_);refine gO Tryz.func137 #[.int .i64 o] ?_;(with_reducible refine (pW o cn _ W5.out).mono ?_);rintro e w3 ⟨rfl,⟨n1,rfl⟩⟩;refine ⟨_,rfl,?_⟩;refine hK.out _ _ ⟨⟨bF hHeld.1.out _⟩,hHeld.2⟩ (fun hHeld=>?_);clear hK K;refine nS 40 ?_;refine dL 30 ?_;refine dL 31 ?_;refine dL 32 ?_;refine fN 33 ?_;refine fN 34 ?_;refine fN 35 ?_;refine fN 36 ?_;refine fN 37 ?_;refine fN 38 ?_;refine fN 39 ?_;refine fN 40 ?_;refine dL 41 ?_;refine dL 42 ?_;refine fN 43 ?_;refine fN 44 ?_;refine fN 45 ?_;refine fN 46 ?_;refine fN 47 ?_;refine fN 48 ?_;refine fN 49 ?_;refine fN 50 ?_;refine fN 51 ?_;refine fN 52 ?_;refine fN 53 ?_;refine dL 54 ?_;refine dL 55 ?_;refine kX (by kernel_rfl) ?_;go_wp2;go_ret;exact ⟨by rw [←HZ.out];rfl,hHeld.1.out⟩
 |true=>
 have B4:=aK h4;clear h4
 cases h5:pV l0 a1 a2 a3 l4 5 with
 | false =>
  have B5:=aK h5;clear h5;have W1:=aK (show dO 0 a1 40=some true by rw [dV];exact dY some (by have:=B0.out;unfold pV at this;exact this));have W2:=aK (show dO 14 o 120=some true by rw [dV];exact dY some bHw);have W3:=aK (show dO 0 a2 a1=some true by rw [dV];exact dY some (by have:=B2.out;unfold pV at this;exact this));have W4:=aK (show dO a1 a3 (l0.length:Int)=some true by rw [dV];exact dY some (by have:=B3.out;unfold pV at this;exact this));obtain ⟨cn,hcn⟩: ∃cn,cn=tN o:=⟨_,rfl⟩;have W5:=aK (show qR o=some cn by rw [hcn];rfl);have e5:((l4.length:Int)==cn)=true:=by have:=B4.out;unfold pV at this;rw [hcn,HO.out];exact this
  clear hcn;have b0:=B0.out;have b1:=B1.out;have b2:=B2.out;have b3:=B3.out;unfold pV at b0 b1 b2 b3;have b0:=bA b0;have b1:=bA b1;have b2:=bA b2;have b3:=bA b3;rw [←HO.out] at b1;obtain ⟨y,hy⟩: ∃y:Nat,a1=(y:Int):=⟨a1.toNat,by omega⟩;have hyl:y≤l0.length:=by omega
  have hz2:a2.toNat≤y:=by omega
  have hy0:a1.toNat=y:=by omega
  obtain ⟨ad,had⟩: ∃ad,A0=some ad:=by
   have h0:=HO.out;have hL:=HL.out;obtain ⟨ad,e,_⟩:=dA HR0.out 0 (by omega) (by unfold wrap64 at h0;omega);exact ⟨ad,e⟩
  subst had;have P1:=aK hy;have P2:=aK hyl;have P3:=aK HC0.out
  obtain ⟨ad2,h2⟩: ∃ad2,(if c0=y then some ad else some (ad.add y))=some ad2:=by
   by_cases h:c0=y
   ·exact ⟨ad,if_pos h⟩
   ·exact ⟨ad.add y,if_neg h⟩
  obtain ⟨z,hz⟩: ∃z,l0.length - y=z:=⟨_,rfl⟩;obtain ⟨zc,hzc⟩: ∃zc,c0 - y=zc:=⟨_,rfl⟩;have P4:=aK h2;have P5:=aK hz;have P6:=aK hzc;obtain ⟨i3,hi3,_,hsz3,_⟩:=info_parts tB;have IX0: ∀W:World,(Instr.index 151 (.agg #[.slice (some ad) y c0,.slice (some ad2) z zc]) (.int .i64 0)).run Tryz.prog W= .ok (.slice (some ad) y c0) W:=fun W=>by kernel_rfl
  have IX1: ∀W:World,(Instr.index 151 (.agg #[.slice (some ad) y c0,.slice (some ad2) z zc]) (.int .i64 1)).run Tryz.prog W= .ok (.slice (some ad2) z zc) W:=fun W=>by kernel_rfl
  obtain ⟨E1,hE1⟩: ∃E1:Option Addr,E1=if c0=a2.toNat then some ad else (some ad).map (·.add (a2.toNat*1)):=⟨_,rfl⟩
  obtain ⟨L1,hL1⟩: ∃L1,L1=(l0.take y).drop a2.toNat:=⟨_,rfl⟩;have n1:L1.length=y - a2.toNat:=by rw [hL1,dD,dH,Nat.min_eq_left hyl]
  have SL1:=yG (P:=Tryz.prog) 24 3 .i64 Tryz.underlying24 hi3 1 hsz3 (some ad) y c0 a2 (by omega) (by omega);rw [←hE1,←n1] at SL1
  have HE1:=aK (show Kd.C (Kd.int .i64) w E1 L1.length L1 by
   have hT:=Kd.C_take HR0.out hyl;have hD:=Kd.C_drop (c:=c0) hT (m:=a2.toNat) (by rw [dH];omega) (by rw [dH];have:=HC0.out;omega);rw [←hL1] at hD;rw [hE1]
   exact hD)
  have HEl1:=aK (show L1.length≤281474976710656 by have:=HL.out;rw [n1];omega);have HV1:=aK (show L1.all (· ==0)=false by have:=B5.out;unfold pV at this;rw [hy0,←hL1] at this;exact this);have HZ:=aK (show false=r by rw [←HR.out,B0.out,B1.out,B2.out,B3.out,B4.out,B5.out];rfl);clear hy hy0 hyl hz2 b0 b1 b2 b3 hL1 hE1 n1 h2 hz hzc hi3 hsz3;go_enter Tryz.func91,Tryz.ntmps91;go_wp2;refine sT 56 (S:=fun w'=>Aside0 (Below w.heap.size w w')∧w'.cell? ⟨w.heap.size,0,none⟩=some (.slice (some ad) l0.length c0)∧w'.cell? ⟨w.heap.size,1,none⟩=some (.int .i64 a1)∧w'.cell? ⟨w.heap.size,2,none⟩=some (.int .i64 a2)∧w'.cell? ⟨w.heap.size,3,none⟩=some (.int .i64 a3)∧w'.cell? ⟨w.heap.size,4,none⟩=some (.slice A4 l4.length c4)) (ds:=[]) ⟨⟨bH HB.out⟩,(by go_simp),(by go_simp),(by go_simp),(by go_simp),(by go_simp)⟩ (fun hHeld=>?_);refine dL 0 ?_;refine tS 1 12 (lA 56 3) rfl rfl (by kernel_rfl) hHeld pD ?_;refine oS 2 13 (lA 56 7) rfl rfl (fun K hK=>?_);refine gO Tryz.func136 #[.int .i64 0,.int .i64 a1,.int .i64 40] ?_;(with_reducible refine (dB 0 a1 40 true _ W1.out).mono ?_);rintro e w3 ⟨rfl,⟨n1,rfl⟩⟩;refine ⟨_,rfl,?_⟩;refine hK.out _ _ ⟨⟨bF hHeld.1.out _⟩,hHeld.2⟩ (fun hHeld=>?_);clear hK K;refine nS 13 ?_;refine dL 3 ?_;refine dL 4 ?_;refine oS 5 16 (lA 56 63) rfl rfl (fun K hK=>?_);refine gO Tryz.func136 #[.int .i64 14,.int .i64 o,.int .i64 120] ?_;(with_reducible refine (dB 14 o 120 true _ W2.out).mono ?_);rintro e w3 ⟨rfl,⟨n1,rfl⟩⟩;refine ⟨_,rfl,?_⟩;refine hK.out _ _ ⟨⟨bF hHeld.1.out _⟩,hHeld.2⟩ (fun hHeld=>?_);clear hK K;refine nS 16 ?_;refine dL 6 ?_;refine dL 7 ?_;refine dL 8 ?_;refine dL 10 ?_;refine tS 9 20 (lA 56 2047) rfl rfl (by kernel_rfl) hHeld pD ?_;refine tS 11 22 (lA 56 4095) rfl rfl (by kernel_rfl) hHeld pD ?_;refine oS 12 23 (lA 56 8191) rfl rfl (fun K hK=>?_);refine gO Tryz.func136 #[.int .i64 0,.int .i64 a2,.int .i64 a1] ?_;(with_reducible refine (dB 0 a2 a1 true _ W3.out).mono ?_);rintro e w3 ⟨rfl,⟨n1,rfl⟩⟩;refine ⟨_,rfl,?_⟩;refine hK.out _ _ ⟨⟨bF hHeld.1.out _⟩,hHeld.2⟩ (fun hHeld=>?_);clear hK K;refine nS 23 ?_;refine dL 13 ?_;refine dL 14 ?_;refine dL 15 ?_;refine dL 17 ?_;refine dL 19 ?_;refine tS 16 27 (lA 56 786431) rfl rfl (by kernel_rfl) hHeld pD ?_;refine tS 18 29 (lA 56 1048575) rfl rfl (by kernel_rfl) hHeld pD ?_;refine tS 20 31 (lA 56 2097151) rfl rfl (by kernel_rfl) hHeld pD ?_;refine dL 21 ?_;refine oS 22 33 (lA 56 8388607) rfl rfl (fun K hK=>?_);refine gO Tryz.func136 #[.int .i64 a1,.int .i64 a3,.int .i64 (l0.length:Int)] ?_;(with_reducible refine (dB a1 a3 (l0.length:Int) true _ W4.out).mono ?_);rintro e w3 ⟨rfl,⟨n1,rfl⟩⟩;refine ⟨_,rfl,?_⟩;refine hK.out _ _ ⟨⟨bF hHeld.1.out _⟩,hHeld.2⟩ (fun hHeld=>?_);clear hK K;refine nS 33 ?_;refine dL 23 ?_;refine dL 24 ?_;refine dL 25 ?_;refine dL 28 ?_;refine tS 26 37 (lA 56 402653183) rfl rfl (by kernel_rfl) hHeld pD ?_;refine dL 27 ?_;refine oS 29 40 (lA 56 1073741823) rfl rfl (fun K hK=>?_);refine gO Tryz.func137 #[.int .i64 o] ?_;(with_reducible refine (pW o cn _ W5.out).mono ?_);rintro e w3 ⟨rfl,⟨n1,rfl⟩⟩;refine ⟨_,rfl,?_⟩;refine hK.out _ _ ⟨⟨bF hHeld.1.out _⟩,hHeld.2⟩ (fun hHeld=>?_);clear hK K;refine nS 40 ?_;refine dL 30 ?_;refine dL 31 ?_;refine dL 32 ?_;refine dL 36 ?_;refine dL 39 ?_;refine tS 33 44 (lA 56 635655159807) rfl rfl (by kernel_rfl) hHeld pD ?_;refine tS 37 48 (lA 56 773094113279) rfl rfl (by kernel_rfl) hHeld pD ?_;refine oS 34 45 (lA 56 790273982463) rfl rfl (fun K hK=>?_);refine gO Tryz.func138 #[.agg #[.slice (some ad) l0.length c0,.int .i64 a1,.int .i64 a2,.int .i64 a3,.slice A4 l4.length c4]] ?_;(with_reducible refine (Mem_parts.calls2 ad ad2 l0.length c0 y z zc a1 a2 a3 (.slice A4 l4.length c4) rfl _ P1.out P2.out P3.out P4.out P5.out P6.out).mono ?_);rintro e w3 ⟨rfl,hb3⟩;refine ⟨_,rfl,?_⟩;refine hK.out _ _ ⟨⟨bG hHeld.1.out hb3⟩,(yW hb3 hHeld.2)⟩ (fun hHeld=>?_);clear hK K;refine nS 45 ?_
  refine tS 35 46 (lA 56 824633720831) rfl rfl (by kernel_rfl) hHeld pD ?_;refine dL 38 ?_;refine oS 40 51 (lA 56 2199023255551) rfl rfl (fun K hK=>?_);refine gO Tryz.func119 #[.slice E1 L1.length (c0 - a2.toNat),.func (.func 135) #[] #[]] ?_;(with_reducible refine (pK E1 (c0 - a2.toNat) L1 _ (bS HE1.out hHeld.1.out) HEl1.out).mono ?_);rintro e w3 ⟨rfl,hb3⟩;rw [HV1.out];refine ⟨_,rfl,?_⟩;refine hK.out _ _ ⟨⟨bG hHeld.1.out hb3⟩,(yW hb3 hHeld.2)⟩ (fun hHeld=>?_);clear hK K;refine nS 51 ?_;refine dL 41 ?_;refine dL 42 ?_;refine fN 43 ?_;refine fN 44 ?_;refine fN 45 ?_;refine fN 46 ?_;refine fN 47 ?_;refine fN 48 ?_;refine fN 49 ?_;refine fN 50 ?_;refine fN 51 ?_;refine fN 52 ?_;refine fN 53 ?_;refine dL 54 ?_;refine dL 55 ?_;refine kX (by kernel_rfl) ?_;go_wp2;go_ret;exact ⟨by rw [←HZ.out];rfl,hHeld.1.out⟩
 |true=>
 have B5:=aK h5;clear h5
 cases h6:pV l0 a1 a2 a3 l4 6 with
 | false =>
  have B6:=aK h6;clear h6;have W1:=aK (show dO 0 a1 40=some true by rw [dV];exact dY some (by have:=B0.out;unfold pV at this;exact this));have W2:=aK (show dO 14 o 120=some true by rw [dV];exact dY some bHw);have W3:=aK (show dO 0 a2 a1=some true by rw [dV];exact dY some (by have:=B2.out;unfold pV at this;exact this));have W4:=aK (show dO a1 a3 (l0.length:Int)=some true by rw [dV];exact dY some (by have:=B3.out;unfold pV at this;exact this));obtain ⟨cn,hcn⟩: ∃cn,cn=tN o:=⟨_,rfl⟩;have W5:=aK (show qR o=some cn by rw [hcn];rfl);have e5:((l4.length:Int)==cn)=true:=by have:=B4.out;unfold pV at this;rw [hcn,HO.out];exact this
  clear hcn;have b0:=B0.out;have b1:=B1.out;have b2:=B2.out;have b3:=B3.out;unfold pV at b0 b1 b2 b3;have b0:=bA b0;have b1:=bA b1;have b2:=bA b2;have b3:=bA b3;rw [←HO.out] at b1;obtain ⟨y,hy⟩: ∃y:Nat,a1=(y:Int):=⟨a1.toNat,by omega⟩;have hyl:y≤l0.length:=by omega
  have hz2:a2.toNat≤y:=by omega
  have hy0:a1.toNat=y:=by omega
  obtain ⟨ad,had⟩: ∃ad,A0=some ad:=by
   have h0:=HO.out;have hL:=HL.out;obtain ⟨ad,e,_⟩:=dA HR0.out 0 (by omega) (by unfold wrap64 at h0;omega);exact ⟨ad,e⟩
  subst had;have P1:=aK hy;have P2:=aK hyl;have P3:=aK HC0.out
  obtain ⟨ad2,h2⟩: ∃ad2,(if c0=y then some ad else some (ad.add y))=some ad2:=by
   by_cases h:c0=y
   ·exact ⟨ad,if_pos h⟩
   ·exact ⟨ad.add y,if_neg h⟩
  obtain ⟨z,hz⟩: ∃z,l0.length - y=z:=⟨_,rfl⟩;obtain ⟨zc,hzc⟩: ∃zc,c0 - y=zc:=⟨_,rfl⟩;have P4:=aK h2;have P5:=aK hz;have P6:=aK hzc;obtain ⟨i3,hi3,_,hsz3,_⟩:=info_parts tB;have IX0: ∀W:World,(Instr.index 151 (.agg #[.slice (some ad) y c0,.slice (some ad2) z zc]) (.int .i64 0)).run Tryz.prog W= .ok (.slice (some ad) y c0) W:=fun W=>by kernel_rfl
  have IX1: ∀W:World,(Instr.index 151 (.agg #[.slice (some ad) y c0,.slice (some ad2) z zc]) (.int .i64 1)).run Tryz.prog W= .ok (.slice (some ad2) z zc) W:=fun W=>by kernel_rfl
  obtain ⟨E1,hE1⟩: ∃E1:Option Addr,E1=if c0=a2.toNat then some ad else (some ad).map (·.add (a2.toNat*1)):=⟨_,rfl⟩
  obtain ⟨L1,hL1⟩: ∃L1,L1=(l0.take y).drop a2.toNat:=⟨_,rfl⟩;have n1:L1.length=y - a2.toNat:=by rw [hL1,dD,dH,Nat.min_eq_left hyl]
  have SL1:=yG (P:=Tryz.prog) 24 3 .i64 Tryz.underlying24 hi3 1 hsz3 (some ad) y c0 a2 (by omega) (by omega);rw [←hE1,←n1] at SL1
  have HE1:=aK (show Kd.C (Kd.int .i64) w E1 L1.length L1 by
   have hT:=Kd.C_take HR0.out hyl;have hD:=Kd.C_drop (c:=c0) hT (m:=a2.toNat) (by rw [dH];omega) (by rw [dH];have:=HC0.out;omega);rw [←hL1] at hD;rw [hE1]
   exact hD)
  have HEl1:=aK (show L1.length≤281474976710656 by have:=HL.out;rw [n1];omega);have HV1:=aK (show L1.all (· ==0)=true by have:=B5.out;unfold pV at this;rw [hy0,←hL1] at this;exact this);obtain ⟨d,hd⟩: ∃d,d=a3 - a1:=⟨_,rfl⟩;have q2:IntKind.i64.wrap (a3 - a1)=d:=by rw [hd];exact hZ _ ⟨by have:=HL.out;omega,by have:=HL.out;omega⟩
  obtain ⟨E2,hE2⟩: ∃E2:Option Addr,E2=if zc=d.toNat then some ad2 else (some ad2).map (·.add (d.toNat*1)):=⟨_,rfl⟩
  obtain ⟨L2,hL2⟩: ∃L2,L2=(l0.drop y).drop d.toNat:=⟨_,rfl⟩;have n2:L2.length=z - d.toNat:=by rw [hL2,dD,dD,hz]
  have SL2:=yG (P:=Tryz.prog) 24 3 .i64 Tryz.underlying24 hi3 1 hsz3 (some ad2) z zc d (by omega) (by omega);rw [←hE2,←n2] at SL2
  have HE2:=aK (show Kd.C (Kd.int .i64) w E2 L2.length L2 by
   have hT:=Kd.C_drop (c:=c0) HR0.out hyl HC0.out;have e2:(if c0=y then some ad else (some ad).map (·.add (y*(Kd.int .i64).sz)))=some ad2:=by rw [←h2];show (if c0=y then some ad else some (ad.add (y*1)))=_;rw [nL]
   rw [e2] at hT;have hD:=Kd.C_drop (c:=zc) hT (m:=d.toNat) (by rw [dD];omega) (by rw [dD];have:=HC0.out;omega);rw [←hL2] at hD;rw [hE2]
   exact hD)
  have HEl2:=aK (show L2.length≤281474976710656 by have:=HL.out;rw [n2];omega);have HV2:=aK (show L2.all (· ==0)=false by have:=B6.out;unfold pV at this;rw [hy0,←hd,←hL2] at this;exact this);have HZ:=aK (show false=r by rw [←HR.out,B0.out,B1.out,B2.out,B3.out,B4.out,B5.out,B6.out];rfl);clear hy hy0 hyl hz2 b0 b1 b2 b3 hL1 hE1 n1 h2 hz hzc hi3 hsz3 hd hL2 hE2 n2;go_enter Tryz.func91,Tryz.ntmps91;go_wp2;refine sT 56 (S:=fun w'=>Aside0 (Below w.heap.size w w')∧w'.cell? ⟨w.heap.size,0,none⟩=some (.slice (some ad) l0.length c0)∧w'.cell? ⟨w.heap.size,1,none⟩=some (.int .i64 a1)∧w'.cell? ⟨w.heap.size,2,none⟩=some (.int .i64 a2)∧w'.cell? ⟨w.heap.size,3,none⟩=some (.int .i64 a3)∧w'.cell? ⟨w.heap.size,4,none⟩=some (.slice A4 l4.length c4)) (ds:=[]) ⟨⟨bH HB.out⟩,(by go_simp),(by go_simp),(by go_simp),(by go_simp),(by go_simp)⟩ (fun hHeld=>?_);refine dL 0 ?_;refine tS 1 12 (lA 56 3) rfl rfl (by kernel_rfl) hHeld pD ?_;refine oS 2 13 (lA 56 7) rfl rfl (fun K hK=>?_);refine gO Tryz.func136 #[.int .i64 0,.int .i64 a1,.int .i64 40] ?_;(with_reducible refine (dB 0 a1 40 true _ W1.out).mono ?_);rintro e w3 ⟨rfl,⟨n1,rfl⟩⟩;refine ⟨_,rfl,?_⟩;refine hK.out _ _ ⟨⟨bF hHeld.1.out _⟩,hHeld.2⟩ (fun hHeld=>?_);clear hK K;refine nS 13 ?_;refine dL 3 ?_;refine dL 4 ?_;refine oS 5 16 (lA 56 63) rfl rfl (fun K hK=>?_);refine gO Tryz.func136 #[.int .i64 14,.int .i64 o,.int .i64 120] ?_;(with_reducible refine (dB 14 o 120 true _ W2.out).mono ?_);rintro e w3 ⟨rfl,⟨n1,rfl⟩⟩;refine ⟨_,rfl,?_⟩;refine hK.out _ _ ⟨⟨bF hHeld.1.out _⟩,hHeld.2⟩ (fun hHeld=>?_);clear hK K;refine nS 16 ?_;refine dL 6 ?_;refine dL 7 ?_;refine dL 8 ?_;refine dL 10 ?_;refine tS 9 20 (lA 56 2047) rfl rfl (by kernel_rfl) hHeld pD ?_;refine tS 11 22 (lA 56 4095) rfl rfl (by kernel_rfl) hHeld pD ?_;refine oS 12 23 (lA 56 8191) rfl rfl (fun K hK=>?_);refine gO Tryz.func136 #[.int .i64 0,.int .i64 a2,.int .i64 a1] ?_;(with_reducible refine (dB 0 a2 a1 true _ W3.out).mono ?_);rintro e w3 ⟨rfl,⟨n1,rfl⟩⟩;refine ⟨_,rfl,?_⟩;refine hK.out _ _ ⟨⟨bF hHeld.1.out _⟩,hHeld.2⟩ (fun hHeld=>?_);clear hK K;refine nS 23 ?_;refine dL 13 ?_;refine dL 14 ?_;refine dL 15 ?_;refine dL 17 ?_;refine dL 19 ?_;refine tS 16 27 (lA 56 786431) rfl rfl (by kernel_rfl) hHeld pD ?_;refine tS 18 29 (lA 56 1048575) rfl rfl (by kernel_rfl) hHeld pD ?_;refine tS 20 31 (lA 56 2097151) rfl rfl (by kernel_rfl) hHeld pD ?_;refine dL 21 ?_;refine oS 22 33 (lA 56 8388607) rfl rfl (fun K hK=>?_);refine gO Tryz.func136 #[.int .i64 a1,.int .i64 a3,.int .i64 (l0.length:Int)] ?_;(with_reducible refine (dB a1 a3 (l0.length:Int) true _ W4.out).mono ?_);rintro e w3 ⟨rfl,⟨n1,rfl⟩⟩;refine ⟨_,rfl,?_⟩;refine hK.out _ _ ⟨⟨bF hHeld.1.out _⟩,hHeld.2⟩ (fun hHeld=>?_);clear hK K;refine nS 33 ?_;refine dL 23 ?_;refine dL 24 ?_;refine dL 25 ?_;refine dL 28 ?_;refine tS 26 37 (lA 56 402653183) rfl rfl (by kernel_rfl) hHeld pD ?_;refine dL 27 ?_;refine oS 29 40 (lA 56 1073741823) rfl rfl (fun K hK=>?_);refine gO Tryz.func137 #[.int .i64 o] ?_;(with_reducible refine (pW o cn _ W5.out).mono ?_);rintro e w3 ⟨rfl,⟨n1,rfl⟩⟩;refine ⟨_,rfl,?_⟩;refine hK.out _ _ ⟨⟨bF hHeld.1.out _⟩,hHeld.2⟩ (fun hHeld=>?_);clear hK K;refine nS 40 ?_;refine dL 30 ?_;refine dL 31 ?_;refine dL 32 ?_;refine dL 36 ?_;refine dL 39 ?_;refine tS 33 44 (lA 56 635655159807) rfl rfl (by kernel_rfl) hHeld pD ?_;refine tS 37 48 (lA 56 773094113279) rfl rfl (by kernel_rfl) hHeld pD ?_;refine oS 34 45 (lA 56 790273982463) rfl rfl (fun K hK=>?_);refine gO Tryz.func138 #[.agg #[.slice (some ad) l0.length c0,.int .i64 a1,.int .i64 a2,.int .i64 a3,.slice A4 l4.length c4]] ?_;(with_reducible refine (Mem_parts.calls2 ad ad2 l0.length c0 y z zc a1 a2 a3 (.slice A4 l4.length c4) rfl _ P1.out P2.out P3.out P4.out P5.out P6.out).mono ?_);rintro e w3 ⟨rfl,hb3⟩;refine ⟨_,rfl,?_⟩;refine hK.out _ _ ⟨⟨bG hHeld.1.out hb3⟩,(yW hb3 hHeld.2)⟩ (fun hHeld=>?_);clear hK K
  refine nS 45 ?_;refine tS 35 46 (lA 56 824633720831) rfl rfl (by kernel_rfl) hHeld pD ?_;refine dL 38 ?_;refine oS 40 51 (lA 56 2199023255551) rfl rfl (fun K hK=>?_);refine gO Tryz.func119 #[.slice E1 L1.length (c0 - a2.toNat),.func (.func 135) #[] #[]] ?_;(with_reducible refine (pK E1 (c0 - a2.toNat) L1 _ (bS HE1.out hHeld.1.out) HEl1.out).mono ?_);rintro e w3 ⟨rfl,hb3⟩;rw [HV1.out];refine ⟨_,rfl,?_⟩;refine hK.out _ _ ⟨⟨bG hHeld.1.out hb3⟩,(yW hb3 hHeld.2)⟩ (fun hHeld=>?_);clear hK K;refine nS 51 ?_;refine dL 41 ?_;refine dL 42 ?_;refine dL 46 ?_;refine dL 48 ?_;refine dL 52 ?_;refine tS 43 54 (lA 56 4873035534303231) rfl rfl (by kernel_rfl) hHeld pD ?_;refine tS 47 58 (lA 56 5013773022658559) rfl rfl (by kernel_rfl) hHeld pD ?_;refine tS 49 60 (lA 56 5576722976079871) rfl rfl (by kernel_rfl) hHeld pD ?_;refine dL 50 ?_;refine oS 44 55 (lA 56 6720215068966911) rfl rfl (fun K hK=>?_);refine gO Tryz.func138 #[.agg #[.slice (some ad) l0.length c0,.int .i64 a1,.int .i64 a2,.int .i64 a3,.slice A4 l4.length c4]] ?_;(with_reducible refine (Mem_parts.calls2 ad ad2 l0.length c0 y z zc a1 a2 a3 (.slice A4 l4.length c4) rfl _ P1.out P2.out P3.out P4.out P5.out P6.out).mono ?_);rintro e w3 ⟨rfl,hb3⟩;refine ⟨_,rfl,?_⟩;refine hK.out _ _ ⟨⟨bG hHeld.1.out hb3⟩,(yW hb3 hHeld.2)⟩ (fun hHeld=>?_);clear hK K;refine nS 55 ?_;refine tS 45 56 (lA 56 6755399441055743) rfl rfl (by kernel_rfl) hHeld pD ?_;refine dL 51 ?_;refine oS 53 64 (lA 56 18014398509481983) rfl rfl (fun K hK=>?_);refine gO Tryz.func119 #[.slice E2 L2.length (zc - d.toNat),.func (.func 135) #[] #[]] ?_;(with_reducible refine (pK E2 (zc - d.toNat) L2 _ (bS HE2.out hHeld.1.out) HEl2.out).mono ?_);rintro e w3 ⟨rfl,hb3⟩;rw [HV2.out];refine ⟨_,rfl,?_⟩;refine hK.out _ _ ⟨⟨bG hHeld.1.out hb3⟩,(yW hb3 hHeld.2)⟩ (fun hHeld=>?_);clear hK K;refine nS 64 ?_;refine dL 54 ?_;refine dL 55 ?_;refine kX (by kernel_rfl) ?_;go_wp2;go_ret;exact ⟨by rw [←HZ.out];rfl,hHeld.1.out⟩
 |true=>
 have B6:=aK h6;clear h6;have W1:=aK (show dO 0 a1 40=some true by rw [dV];exact dY some (by have:=B0.out;unfold pV at this;exact this));have W2:=aK (show dO 14 o 120=some true by rw [dV];exact dY some bHw);have W3:=aK (show dO 0 a2 a1=some true by rw [dV];exact dY some (by have:=B2.out;unfold pV at this;exact this));have W4:=aK (show dO a1 a3 (l0.length:Int)=some true by rw [dV];exact dY some (by have:=B3.out;unfold pV at this;exact this));obtain ⟨cn,hcn⟩: ∃cn,cn=tN o:=⟨_,rfl⟩;have W5:=aK (show qR o=some cn by rw [hcn];rfl);have e5:((l4.length:Int)==cn)=true:=by have:=B4.out;unfold pV at this;rw [hcn,HO.out];exact this
 clear hcn;have b0:=B0.out;have b1:=B1.out;have b2:=B2.out;have b3:=B3.out;unfold pV at b0 b1 b2 b3;have b0:=bA b0;have b1:=bA b1;have b2:=bA b2;have b3:=bA b3;rw [←HO.out] at b1;obtain ⟨y,hy⟩: ∃y:Nat,a1=(y:Int):=⟨a1.toNat,by omega⟩;have hyl:y≤l0.length:=by omega
 have hz2:a2.toNat≤y:=by omega
 have hy0:a1.toNat=y:=by omega
 obtain ⟨ad,had⟩: ∃ad,A0=some ad:=by
  have h0:=HO.out;have hL:=HL.out;obtain ⟨ad,e,_⟩:=dA HR0.out 0 (by omega) (by unfold wrap64 at h0;omega);exact ⟨ad,e⟩
 subst had;have P1:=aK hy;have P2:=aK hyl;have P3:=aK HC0.out
 obtain ⟨ad2,h2⟩: ∃ad2,(if c0=y then some ad else some (ad.add y))=some ad2:=by
  by_cases h:c0=y
  ·exact ⟨ad,if_pos h⟩
  ·exact ⟨ad.add y,if_neg h⟩
 obtain ⟨z,hz⟩: ∃z,l0.length - y=z:=⟨_,rfl⟩;obtain ⟨zc,hzc⟩: ∃zc,c0 - y=zc:=⟨_,rfl⟩;have P4:=aK h2;have P5:=aK hz;have P6:=aK hzc;obtain ⟨i3,hi3,_,hsz3,_⟩:=info_parts tB;have IX0: ∀W:World,(Instr.index 151 (.agg #[.slice (some ad) y c0,.slice (some ad2) z zc]) (.int .i64 0)).run Tryz.prog W= .ok (.slice (some ad) y c0) W:=fun W=>by kernel_rfl
 have IX1: ∀W:World,(Instr.index 151 (.agg #[.slice (some ad) y c0,.slice (some ad2) z zc]) (.int .i64 1)).run Tryz.prog W= .ok (.slice (some ad2) z zc) W:=fun W=>by kernel_rfl
 obtain ⟨E1,hE1⟩: ∃E1:Option Addr,E1=if c0=a2.toNat then some ad else (some ad).map (·.add (a2.toNat*1)):=⟨_,rfl⟩
 obtain ⟨L1,hL1⟩: ∃L1,L1=(l0.take y).drop a2.toNat:=⟨_,rfl⟩;have n1:L1.length=y - a2.toNat:=by rw [hL1,dD,dH,Nat.min_eq_left hyl]
 have SL1:=yG (P:=Tryz.prog) 24 3 .i64 Tryz.underlying24 hi3 1 hsz3 (some ad) y c0 a2 (by omega) (by omega);rw [←hE1,←n1] at SL1
 have HE1:=aK (show Kd.C (Kd.int .i64) w E1 L1.length L1 by
  have hT:=Kd.C_take HR0.out hyl;have hD:=Kd.C_drop (c:=c0) hT (m:=a2.toNat) (by rw [dH];omega) (by rw [dH];have:=HC0.out;omega);rw [←hL1] at hD;rw [hE1]
  exact hD)
 have HEl1:=aK (show L1.length≤281474976710656 by have:=HL.out;rw [n1];omega);have HV1:=aK (show L1.all (· ==0)=true by have:=B5.out;unfold pV at this;rw [hy0,←hL1] at this;exact this);obtain ⟨d,hd⟩: ∃d,d=a3 - a1:=⟨_,rfl⟩;have q2:IntKind.i64.wrap (a3 - a1)=d:=by rw [hd];exact hZ _ ⟨by have:=HL.out;omega,by have:=HL.out;omega⟩
 obtain ⟨E2,hE2⟩: ∃E2:Option Addr,E2=if zc=d.toNat then some ad2 else (some ad2).map (·.add (d.toNat*1)):=⟨_,rfl⟩
 obtain ⟨L2,hL2⟩: ∃L2,L2=(l0.drop y).drop d.toNat:=⟨_,rfl⟩;have n2:L2.length=z - d.toNat:=by rw [hL2,dD,dD,hz]
 have SL2:=yG (P:=Tryz.prog) 24 3 .i64 Tryz.underlying24 hi3 1 hsz3 (some ad2) z zc d (by omega) (by omega);rw [←hE2,←n2] at SL2
 have HE2:=aK (show Kd.C (Kd.int .i64) w E2 L2.length L2 by
  have hT:=Kd.C_drop (c:=c0) HR0.out hyl HC0.out;have e2:(if c0=y then some ad else (some ad).map (·.add (y*(Kd.int .i64).sz)))=some ad2:=by rw [←h2];show (if c0=y then some ad else some (ad.add (y*1)))=_;rw [nL]
  rw [e2] at hT;have hD:=Kd.C_drop (c:=zc) hT (m:=d.toNat) (by rw [dD];omega) (by rw [dD];have:=HC0.out;omega);rw [←hL2] at hD;rw [hE2]
  exact hD)
 have HEl2:=aK (show L2.length≤281474976710656 by have:=HL.out;rw [n2];omega);have HV2:=aK (show L2.all (· ==0)=true by have:=B6.out;unfold pV at this;rw [hy0,←hd,←hL2] at this;exact this);have HZ:=aK (show true=r by rw [←HR.out,B0.out,B1.out,B2.out,B3.out,B4.out,B5.out,B6.out];rfl);clear hy hy0 hyl hz2 b0 b1 b2 b3 hL1 hE1 n1 h2 hz hzc hi3 hsz3 hd hL2 hE2 n2;go_enter Tryz.func91,Tryz.ntmps91;go_wp2;refine sT 56 (S:=fun w'=>Aside0 (Below w.heap.size w w')∧w'.cell? ⟨w.heap.size,0,none⟩=some (.slice (some ad) l0.length c0)∧w'.cell? ⟨w.heap.size,1,none⟩=some (.int .i64 a1)∧w'.cell? ⟨w.heap.size,2,none⟩=some (.int .i64 a2)∧w'.cell? ⟨w.heap.size,3,none⟩=some (.int .i64 a3)∧w'.cell? ⟨w.heap.size,4,none⟩=some (.slice A4 l4.length c4)) (ds:=[]) ⟨⟨bH HB.out⟩,(by go_simp),(by go_simp),(by go_simp),(by go_simp),(by go_simp)⟩ (fun hHeld=>?_);refine dL 0 ?_;refine tS 1 12 (lA 56 3) rfl rfl (by kernel_rfl) hHeld pD ?_;refine oS 2 13 (lA 56 7) rfl rfl (fun K hK=>?_);refine gO Tryz.func136 #[.int .i64 0,.int .i64 a1,.int .i64 40] ?_;(with_reducible refine (dB 0 a1 40 true _ W1.out).mono ?_);rintro e w3 ⟨rfl,⟨n1,rfl⟩⟩;refine ⟨_,rfl,?_⟩;refine hK.out _ _ ⟨⟨bF hHeld.1.out _⟩,hHeld.2⟩ (fun hHeld=>?_);clear hK K;refine nS 13 ?_;refine dL 3 ?_;refine dL 4 ?_;refine oS 5 16 (lA 56 63) rfl rfl (fun K hK=>?_);refine gO Tryz.func136 #[.int .i64 14,.int .i64 o,.int .i64 120] ?_;(with_reducible refine (dB 14 o 120 true _ W2.out).mono ?_);rintro e w3 ⟨rfl,⟨n1,rfl⟩⟩;refine ⟨_,rfl,?_⟩;refine hK.out _ _ ⟨⟨bF hHeld.1.out _⟩,hHeld.2⟩ (fun hHeld=>?_);clear hK K;refine nS 16 ?_;refine dL 6 ?_;refine dL 7 ?_;refine dL 8 ?_;refine dL 10 ?_;refine tS 9 20 (lA 56 2047) rfl rfl (by kernel_rfl) hHeld pD ?_;refine tS 11 22 (lA 56 4095) rfl rfl (by kernel_rfl) hHeld pD ?_;refine oS 12 23 (lA 56 8191) rfl rfl (fun K hK=>?_);refine gO Tryz.func136 #[.int .i64 0,.int .i64 a2,.int .i64 a1] ?_;(with_reducible refine (dB 0 a2 a1 true _ W3.out).mono ?_);rintro e w3 ⟨rfl,⟨n1,rfl⟩⟩;refine ⟨_,rfl,?_⟩;refine hK.out _ _ ⟨⟨bF hHeld.1.out _⟩,hHeld.2⟩ (fun hHeld=>?_);clear hK K;refine nS 23 ?_;refine dL 13 ?_;refine dL 14 ?_;refine dL 15 ?_;refine dL 17 ?_;refine dL 19 ?_;refine tS 16 27 (lA 56 786431) rfl rfl (by kernel_rfl) hHeld pD ?_;refine tS 18 29 (lA 56 1048575) rfl rfl (by kernel_rfl) hHeld pD ?_;refine tS 20 31 (lA 56 2097151) rfl rfl (by kernel_rfl) hHeld pD ?_;refine dL 21 ?_;refine oS 22 33 (lA 56 8388607) rfl rfl (fun K hK=>?_);refine gO Tryz.func136 #[.int .i64 a1,.int .i64 a3,.int .i64 (l0.length:Int)] ?_;(with_reducible refine (dB a1 a3 (l0.length:Int) true _ W4.out).mono ?_);rintro e w3 ⟨rfl,⟨n1,rfl⟩⟩;refine ⟨_,rfl,?_⟩;refine hK.out _ _ ⟨⟨bF hHeld.1.out _⟩,hHeld.2⟩ (fun hHeld=>?_);clear hK K;refine nS 33 ?_;refine dL 23 ?_;refine dL 24 ?_;refine dL 25 ?_;refine dL 28 ?_;refine tS 26 37 (lA 56 402653183) rfl rfl (by kernel_rfl) hHeld pD ?_;refine dL 27 ?_;refine oS 29 40 (lA 56 1073741823) rfl rfl (fun K hK=>?_);refine gO Tryz.func137 #[.int .i64 o] ?_;(with_reducible refine (pW o cn _ W5.out).mono ?_);rintro e w3 ⟨rfl,⟨n1,rfl⟩⟩;refine ⟨_,rfl,?_⟩;refine hK.out _ _ ⟨⟨bF hHeld.1.out _⟩,hHeld.2⟩ (fun hHeld=>?_);clear hK K;refine nS 40 ?_;refine dL 30 ?_;refine dL 31 ?_;refine dL 32 ?_;refine dL 36 ?_;refine dL 39 ?_;refine tS 33 44 (lA 56 635655159807) rfl rfl (by kernel_rfl) hHeld pD ?_;refine tS 37 48 (lA 56 773094113279) rfl rfl (by kernel_rfl) hHeld pD ?_;refine oS 34 45 (lA 56 790273982463) rfl rfl (fun K hK=>?_);refine gO Tryz.func138 #[.agg #[.slice (some ad) l0.length c0,.int .i64 a1,.int .i64 a2,.int .i64 a3,.slice A4 l4.length c4]] ?_;(with_reducible refine (Mem_parts.calls2 ad ad2 l0.length c0 y z zc a1 a2 a3 (.slice A4 l4.length c4) rfl _ P1.out P2.out P3.out P4.out P5.out P6.out).mono ?_);rintro e w3 ⟨rfl,hb3⟩;refine ⟨_,rfl,?_⟩;refine hK.out _ _ ⟨⟨bG hHeld.1.out hb3⟩,(yW hb3 hHeld.2)⟩ (fun hHeld=>?_);clear hK K
 refine nS 45 ?_;refine tS 35 46 (lA 56 824633720831) rfl rfl (by kernel_rfl) hHeld pD ?_;refine dL 38 ?_;refine oS 40 51 (lA 56 2199023255551) rfl rfl (fun K hK=>?_);refine gO Tryz.func119 #[.slice E1 L1.length (c0 - a2.toNat),.func (.func 135) #[] #[]] ?_;(with_reducible refine (pK E1 (c0 - a2.toNat) L1 _ (bS HE1.out hHeld.1.out) HEl1.out).mono ?_);rintro e w3 ⟨rfl,hb3⟩;rw [HV1.out];refine ⟨_,rfl,?_⟩;refine hK.out _ _ ⟨⟨bG hHeld.1.out hb3⟩,(yW hb3 hHeld.2)⟩ (fun hHeld=>?_);clear hK K;refine nS 51 ?_;refine dL 41 ?_;refine dL 42 ?_;refine dL 46 ?_;refine dL 48 ?_;refine dL 52 ?_;refine tS 43 54 (lA 56 4873035534303231) rfl rfl (by kernel_rfl) hHeld pD ?_;refine tS 47 58 (lA 56 5013773022658559) rfl rfl (by kernel_rfl) hHeld pD ?_;refine tS 49 60 (lA 56 5576722976079871) rfl rfl (by kernel_rfl) hHeld pD ?_;refine dL 50 ?_;refine oS 44 55 (lA 56 6720215068966911) rfl rfl (fun K hK=>?_);refine gO Tryz.func138 #[.agg #[.slice (some ad) l0.length c0,.int .i64 a1,.int .i64 a2,.int .i64 a3,.slice A4 l4.length c4]] ?_;(with_reducible refine (Mem_parts.calls2 ad ad2 l0.length c0 y z zc a1 a2 a3 (.slice A4 l4.length c4) rfl _ P1.out P2.out P3.out P4.out P5.out P6.out).mono ?_);rintro e w3 ⟨rfl,hb3⟩;refine ⟨_,rfl,?_⟩;refine hK.out _ _ ⟨⟨bG hHeld.1.out hb3⟩,(yW hb3 hHeld.2)⟩ (fun hHeld=>?_);clear hK K;refine nS 55 ?_;refine tS 45 56 (lA 56 6755399441055743) rfl rfl (by kernel_rfl) hHeld pD ?_;refine dL 51 ?_;refine oS 53 64 (lA 56 18014398509481983) rfl rfl (fun K hK=>?_);refine gO Tryz.func119 #[.slice E2 L2.length (zc - d.toNat),.func (.func 135) #[] #[]] ?_;(with_reducible refine (pK E2 (zc - d.toNat) L2 _ (bS HE2.out hHeld.1.out) HEl2.out).mono ?_);rintro e w3 ⟨rfl,hb3⟩;rw [HV2.out];refine ⟨_,rfl,?_⟩;refine hK.out _ _ ⟨⟨bG hHeld.1.out hb3⟩,(yW hb3 hHeld.2)⟩ (fun hHeld=>?_);clear hK K;refine nS 64 ?_;refine dL 54 ?_;refine dL 55 ?_;refine kX (by kernel_rfl) ?_;go_wp2;go_ret;exact ⟨by rw [←HZ.out];rfl,hHeld.1.out⟩
def fA:Nat→List (S78)→Int→Option (List Int)
  |0,_,_=>none
  |k+1,l0,a1=>if a1=0 then (some ([]:List Int)) else (if 0≤a1 then (if a1<(l0.length:Int) then ((fA k l0 ((bX l0 a1).f0)).bind fun t306=>(if t306.length+((bX l0 a1).f1).length<17592186044416 then (some (t306++((bX l0 a1).f1))) else (none))) else (none)) else (none))
def impl_classFields.T3:Bool×List (List Nat×List Nat):=(true,[([],[]),([],[]),([],[]),([1,2],[1,2]),([3],[3]),([4],[4]),([0,5],[0,5]),([],[]),([],[]),([7,8],[7,8]),([9],[9]),([10],[10]),([6,11,6],[6,11]),([12,12,0,1,2,3,4,5,6,7,8,9,10,11,12],[12])])
def impl_classFields.B3:List Nat:=[0,0,0,6,14,30,63,0,0,384,896,1920,4095,8191]
theorem zD:sK .any (bHa Tryz.f139 3)=impl_classFields.T3:=by kernel_rfl
theorem yR:vE impl_classFields.T3.2 impl_classFields.B3=true:=by kernel_rfl
theorem yQ (k:Nat): ∀(A0:Option Addr) (c0:Nat) (l0:List (S78)) (a1:Int) (r:List Int) (w:World) (hr0:Kd.C yD w A0 l0.length l0) (hc0:l0.length≤c0) (h:fA k l0 a1=some r),
  Calls Tryz.prog 139 #[.slice A0 l0.length c0,.int .i64 a1] w fun e w'=> ∃v0_:Value,e= .returned (v0_)∧Kd.R (Kd.int .i64) 3 w' w.heap.size (fun _=>True) v0_ r∧Below w.heap.size w w':=by
 induction k using Nat.strongRecOn with
 |_ k ih=>
 intro A0 c0 l0 a1 r w hr0 hc0 h
 cases k with
 |zero=>exact absurd h (by simp [fA])
 |succ k=>
 simp only [fA] at h;have HR0:=aK hr0;have HC0:=aK hc0;clear hr0 hc0;have HB:=aK (bQ w.heap.size w);have H:(if a1=0 then (some ([]:List Int)) else (if 0≤a1 then (if a1<(l0.length:Int) then ((fA k l0 ((bX l0 a1).f0)).bind fun t306=>(if t306.length+((bX l0 a1).f1).length<17592186044416 then (some (t306++((bX l0 a1).f1))) else (none))) else (none)) else (none)))=some r:=h
 clear h;by_cases c3:a1=0
 ·rw [if_pos c3] at H
  have c3b0:(a1==0)=true:=beq_iff_eq.mpr c3
  have c3b1:(a1 !=0)=false:=bne_eq_false_iff_eq.mpr c3
  clear c3;obtain rfl:=bC H;go_enter Tryz.func139,Tryz.ntmps139;go_wp2;go_ret;exact ⟨_,by first|rfl|(simp [dF,dE]<;>rfl)|(simp [*,dF,dE]<;>rfl),by first|exact Kd.R_nil _ _ _ _ _|exact Kd.N_nil _ _ _ _ _|exact Kd.V_nil _ _ _ _ _|exact Kd.Q_nil _ _ _ _ _|exact Kd.S_nil _ _ _ _ _,by repeat (first|(with_reducible first|exact HB.out|apply bI|apply bF|apply bH)|exact HB.out)⟩
 ·rw [if_neg c3] at H
  have c3b0:(a1==0)=false:=tP.mpr c3
  have c3b1:(a1 !=0)=true:=bne_iff_ne.mpr c3
  by_cases c4:0≤a1
  ·rw [if_pos c4] at H
   have c4b0:decide (0≤a1)=true:=bB c4
   clear c4;by_cases c5:a1<(l0.length:Int)
   ·rw [if_pos c5] at H
    have c5b0:decide (a1<(l0.length:Int))=true:=bB c5
    clear c5;replace H:=Option.bind_eq_some_iff.mp H;obtain ⟨t306,A60,H⟩:=H;(try dsimp only at H);have A6:=aK A60;clear A60;by_cases c7:t306.length+((bX l0 a1).f1).length<17592186044416
    ·rw [if_pos c7] at H
     have LMc7:=aK c7;clear c7;obtain ⟨y310,hy310⟩: ∃y_:List Int,y_=(t306++((bX l0 a1).f1)):=⟨_,rfl⟩;replace H:(some y310)=some r:=by first|(rw [hy310];with_reducible exact H)|(have H2_:=(bD _ _).symm.trans H;rw [hy310];with_reducible exact H2_)|(have H2_:=(bD _ _).symm.trans H;with_reducible exact H2_)|with_reducible exact H|(rw [hy310];exact H)|exact H
     have Ny310:=aK hy310;clear hy310;obtain rfl:=bC H;go_enter Tryz.func139,Tryz.ntmps139;try go_wp2
     have n0_:=aK (bH HB.out);clear HB;have HB:=n0_;clear n0_;have p305:0≤(a1:Int):=bA fU
     have q305:a1<(l0.length:Int):=bA fU
     obtain ⟨ad305,A305_1,c305_1,e305,hx305_0,hx305_1,hl305_1,hi305_1⟩:=sF HR0.out a1 p305 q305;have hw305_1:=hx305_1;have hw305_0:=hx305_0
     cases e305
     replace hx305_0:=(HB.out.cell (bE w _ hx305_0)).trans hx305_0;replace hx305_1:=(HB.out.cell (bE w _ hx305_1)).trans hx305_1;have HR305_1:=aK hi305_1;have HC305_1:=aK hl305_1;clear hi305_1 hl305_1;replace p305:=bL p305;replace q305:=bL q305;have p309:0≤(a1:Int):=bA fU
     have q309:a1<(l0.length:Int):=bA fU
     obtain ⟨ad309,A309_1,c309_1,e309,hx309_0,hx309_1,hl309_1,hi309_1⟩:=sF HR0.out a1 p309 q309;have hw309_1:=hx309_1;have hw309_0:=hx309_0;obtain rfl:ad305=ad309:=(by injection e309);replace hx309_0:=(HB.out.cell (bE w _ hx309_0)).trans hx309_0;replace hx309_1:=(HB.out.cell (bE w _ hx309_1)).trans hx309_1;have HR309_1:=aK hi309_1;have HC309_1:=aK hl309_1;clear hi309_1 hl309_1;replace p309:=bL p309;replace q309:=bL q309;have ea_:=bC (hx305_1.symm.trans hx309_1);injection ea_ with ea_ en_ ec_;subst ea_;subst ec_;clear en_;refine sT 14 (S:=fun w'=>w'.cell? (ad305.add ((a1).toNat*2))=some (.int .i64 ((bX l0 a1).f0))∧w'.cell? ⟨(ad305.add ((a1).toNat*2)).block,(ad305.add ((a1).toNat*2)).off+1,none⟩=some (.slice A305_1 ((bX l0 a1).f1).length c305_1)∧w'.cell? (ad305.add ((a1).toNat*2))=some (.int .i64 ((bX l0 a1).f0))∧w'.cell? ⟨(ad305.add ((a1).toNat*2)).block,(ad305.add ((a1).toNat*2)).off+1,none⟩=some (.slice A305_1 ((bX l0 a1).f1).length c305_1)) (ds:=[]) ⟨((HB.out.cell (bE w _ hw305_0)).trans hw305_0),((HB.out.cell (bE w _ hw305_1)).trans hw305_1),((HB.out.cell (bE w _ hw309_0)).trans hw309_0),((HB.out.cell (bE w _ hw309_1)).trans hw309_1)⟩ (fun hHeld=>?_);refine nN zD yR (fun HT_ HW_=>?_);generalize w.drew=w8 at HB HR305_1 HR309_1 hx305_0 hx305_1 hx309_0 hx309_1 hHeld ⊢;refine kC 0 ?_;refine kC 1 ?_;refine kC 2 ?_;refine kC 3 ?_;refine kC 4 ?_;refine kC 7 ?_;refine kC 8 ?_;refine kC 9 ?_;refine kC 10 ?_;refine tS 5 12 (lA 14 1983) rfl rfl (fV HT_.out HW_.out (by kernel_rfl)) hHeld yL ?_;refine tS 11 18 (lA 14 4031) rfl rfl (fV HT_.out HW_.out (by kernel_rfl)) hHeld yL ?_;refine rQ (i:=6) (N:=some 13) (lA 14 4095) rfl rfl (mA HT_.out (by kernel_rfl)) (by decide) (fun K hK=>?_);refine pA Tryz.func139 (by kernel_rfl) rfl #[.slice (some ad305) l0.length c0,.int .i64 ((bX l0 a1).f0)] (by rfl) rfl rfl mO ?_;(with_reducible refine (ih k (by omega) _ _ l0 ((bX l0 a1).f0) t306 _ ?side1 ?side2 A6.out).mono ?_)
     (case side1=>exact zF)
     (case side2=>exact HC0.out)
     rintro e w9 ⟨v307,rfl,ho0,hb⟩;refine ⟨_,rfl,?_⟩;have n0_:=aK (dR ho0 (bN jR));have n1_:=aK (bG jR hb);clear HB;have HO308:=n0_;have HB:=n1_;clear n0_ n1_;(try clear hb);(try clear hb2);(try clear hk);(try clear hi);(try clear ho0);refine hK.out _ _ ⟨((HB.out.cell (bE w _ hw305_0)).trans hw305_0),((HB.out.cell (bE w _ hw305_1)).trans hw305_1),((HB.out.cell (bE w _ hw309_0)).trans hw309_0),((HB.out.cell (bE w _ hw309_1)).trans hw309_1)⟩ (fun hHeld=>?_);clear hK K;refine nS 13 ?_;refine rQ (i:=12) (N:=some 19) (lA 14 8191) rfl rfl (mA HT_.out (by kernel_rfl)) (by decide) (fun K hK=>?_);refine Kd.R_append_rows_step (Kd.int .i64) (w0:=w) w.heap.size (by rfl) (.tmp 13) (.tmp 18) 24 3 (.int .i64 0) 8 rfl Tryz.underlying24 tB rfl (by decide) (by omega) v307 t306 ((bX l0 a1).f1) _ _ _ (fun _=>True) (fun _=>False) rfl rfl ?aO ?aR (fun _ _ h=>h) (fun _ h=>h.elim) ?aF ?aB ?aS ?aL ?_
     (case aR=>repeat (first|exact (bS HR309_1.out HB.out)|(with_reducible refine Kd.C_alloc ?_ _)|(with_reducible refine Kd.C_drewN ?_ _)|(with_reducible refine Kd.C_drew ?_)))
     (case aB=>exact jR)
     (case aF=>exact (fun _ _=>trivial))
     (case aO=>exact (by (with_reducible repeat (first|apply Kd.R_alloc|apply bZ|apply cE));exact HO308.out))
     (case aS=>exact (bN jR))
     (case aL=>have:=LMc7.out;omega)
     intro v311 w10 ho hb hg hat;rw [←Ny310.out] at ho;have n0_:=aK (hb);have n1_:=aK (ho);clear HB;clear HO308;have HB:=n0_;have HO312:=n1_;clear n0_ n1_;clear ho hb hg hat;refine hK.out _ _ ⟨((HB.out.cell (bE w _ hw305_0)).trans hw305_0),((HB.out.cell (bE w _ hw305_1)).trans hw305_1),((HB.out.cell (bE w _ hw309_0)).trans hw309_0),((HB.out.cell (bE w _ hw309_1)).trans hw309_1)⟩ (fun hHeld=>?_);clear hK K;refine nS 19 ?_;refine kC 13 ?_;refine kX (rE HT_.out (by kernel_rfl)) ?_;try go_wp2
     go_ret;exact ⟨_,by first|rfl|(simp [dF,dE]<;>rfl)|(simp [*,dF,dE]<;>rfl),by (with_reducible repeat (first|apply Kd.R_alloc|apply bZ|apply cE));exact HO312.out,by repeat (first|(with_reducible first|exact HB.out|apply bI|apply bF|apply bH)|exact HB.out)⟩
    ·rw [if_neg c7] at H
     exact absurd H (by simp)
   ·rw [if_neg c5] at H
    exact absurd H (by simp)
  ·rw [if_neg c4] at H
   exact absurd H (by simp)
def gZ:Nat→List (S78)→List (List Int)→Int→Int→Option ((List (List Int)))
  |0,_,_,_,_=>none
  |k+1,x0,x3,x6,x7=>if x7<x6 then ((fA k x0 x7).bind fun t313=>(if x3.length<5864062014805 then (gZ k x0 (x3++[t313]) x6 (wrap64 (x7+1))) else (none))) else (some x3)
def qV (k:Nat) (l0:List (S78)):Option ((List (List Int))):=gZ k l0 ([]:List (List Int)) (l0.length:Int) 0
theorem zQ (k:Nat) (A0:Option Addr) (c0:Nat) (l0:List (S78)) (r:List (List Int)) (w:World) (hr0:Kd.C yD w A0 l0.length l0) (hc0:l0.length≤c0) (h:qV k l0=some r):
  Calls Tryz.prog 92 #[.slice A0 l0.length c0] w fun e w'=> ∃v0_:Value,e= .returned (v0_)∧Kd.S (Kd.slice 3 (Kd.int .i64)) 24 w' w.heap.size (fun _=>True) v0_ r∧Below w.heap.size w w':=by
 have HR0:=aK hr0;have HC0:=aK hc0;clear hr0 hc0;have HB:=aK (bQ w.heap.size w);have H:(gZ k l0 ([]:List (List Int)) (l0.length:Int) 0)=some r:=h
 clear h;have H':=aK H;clear H;go_enter Tryz.func92,Tryz.ntmps92;go_wp2
 go_loopg [3,7] k (fun kq v3 v7 w'=> ∃(x3_1:List (List Int)) (x7_1:Int),v7= .int .i64 x7_1∧Aside0 (gZ kq l0 x3_1 (l0.length:Int) x7_1=some r)∧Aside0 (kq≤k)∧Aside0 (Kd.S (Kd.slice 3 (Kd.int .i64)) 24 w' w.heap.size (fun _=>True) v3 x3_1)∧Aside0 (Below w.heap.size w w'))
 case atStart=>exact ⟨(([]:List (List Int))),(0),kG,H',⟨bV _⟩,⟨by first|exact Kd.S_nil _ _ _ _ _|exact Kd.N_nil _ _ _ _ _|exact Kd.V_nil _ _ _ _ _|exact Kd.Q_nil _ _ _ _ _|exact Kd.R_nil _ _ _ _ _⟩,⟨by repeat (first|(with_reducible first|exact HB.out|apply bI|apply bF|apply bH)|exact HB.out)⟩⟩
 case round=>
  clear H';obtain ⟨x3_1,x7_1,rfl,HA,HK1,HO_3,HB⟩:=hrel
  cases gk with
  |zero=>exact absurd HA.out (by simp [gZ])
  | succ k1 =>
   have H:=HA.out;clear HA;simp only [gZ] at H;by_cases c2:x7_1<(l0.length:Int)
   ·rw [if_pos c2] at H
    have c2b0:decide (x7_1<(l0.length:Int))=true:=bB c2
    clear c2;replace H:=Option.bind_eq_some_iff.mp H;obtain ⟨t313,A30,H⟩:=H;(try dsimp only at H);have A3:=aK A30;clear A30;by_cases c4:x3_1.length<5864062014805
    ·rw [if_pos c4] at H
     have LMc4:=aK c4;clear c4;obtain ⟨y316,hy316⟩: ∃y_:List (List Int),y_=(x3_1++[t313]):=⟨_,rfl⟩;replace H:(gZ k1 l0 y316 (l0.length:Int) (wrap64 (x7_1+1)))=some r:=by first|(rw [hy316];with_reducible exact H)|(have H2_:=(bD _ _).symm.trans H;rw [hy316];with_reducible exact H2_)|(have H2_:=(bD _ _).symm.trans H;with_reducible exact H2_)|with_reducible exact H|(rw [hy316];exact H)|exact H
     have Ny316:=aK hy316;clear hy316;have H':=aK H;clear H
     go_wp2_with (first|((with_reducible refine cD (f:=139) rfl ?_);refine dT (some 13) rfl rfl Tryz.func139 (by kernel_rfl) rfl #[.slice A0 l0.length c0,.int .i64 x7_1] rfl mO ?_;(with_reducible refine (yQ k1 _ _ l0 x7_1 t313 _ ?side1 ?side2 A3.out).mono ?_);(case side1=>exact zF);(case side2=>exact HC0.out);rintro e w5 ⟨v314,rfl,ho0,hb⟩;refine ⟨_,rfl,?_⟩;have HO315:=aK (dR ho0 (bN jR));replace HO_3:=aK (Kd.S_elder' (by (with_reducible repeat (first|apply Kd.S_alloc|apply Kd.S_drewN|apply Kd.S_drew));exact HO_3.out) (rU ho0) hb);replace HB:=aK (bG jR hb);(try clear hb);(try clear hb2);(try clear hk);(try clear hi);(try clear ho0);obtain ⟨Ao7,co7,eo7⟩:=cH HO315.out;subst eo7)|((with_reducible refine kR (b:= .append) (xs:= #[.tmp 10,.tmp 14]) rfl ?_);at_builtin;refine Kd.S_append (Kd.slice 3 (Kd.int .i64)) (w0:=w) w.heap.size rfl (.tmp 10) (.tmp 14) 83 24 (.slice none 0 0) 24 rfl Tryz.underlying83 info24 rfl (by decide) (by omega) u3 x3_1 t313 [.slice Ao7 t313.length co7] (fun _=>True) (fun k_=>some k_=(.slice Ao7 t313.length co7:Value).ownBlock) rfl rfl ?aP (fun k_ hk_=>((fG (ok':=fun k_=>((fun _=>True)) k_∧some k_≠(u3:Value).ownBlock) (Kd.R_apart' (HO315.out) (Kd.S_typed HO_3.out) (by decide)) (fun k_ hk=>⟨gG,hk.2⟩))).1 k_ hk_.symm) ?aF ?aO ?aB ?aS ?aL ?_;(case aP=>exact Kd.M_row (fG (Kd.R_tight rfl (fG (ok':=fun k_=>((fun _=>True)) k_∧some k_≠(u3:Value).ownBlock) (Kd.R_apart' (HO315.out) (Kd.S_typed HO_3.out) (by decide)) (fun k_ hk=>⟨gG,hk.2⟩))) (fun _ h_=>h_)));(case aB=>exact jR);(case aF=>exact (fun _ _=>trivial));(case aO=>exact (by (with_reducible repeat (first|apply Kd.S_alloc|apply Kd.S_drewN|apply Kd.S_drew));exact Kd.S_mono HO_3.out (fun k_ hk=>⟨gG,fun e_=>hk.2 e_⟩)));(case aS=>exact (bN jR));(case aL=>have:=LMc4.out;omega);intro v317 w6 ho hb hg hat;rw [←Ny316.out] at ho;have n0_:=aK (hb);have n1_:=aK (ho);clear HB;clear HO_3;clear HO315;have HB:=n0_;have HO318:=n1_;clear n0_ n1_;clear ho hb hg hat))
     go_roundg k1
     case measure=>have:=HK1.out;omega
     case rel=>exact ⟨(y316),(wrap64 (x7_1+1)),kG,H',⟨by have:=HK1.out;omega⟩,⟨by (with_reducible repeat (first|apply Kd.S_alloc|apply Kd.S_drewN|apply Kd.S_drew));exact HO318.out⟩,⟨by repeat (first|(with_reducible first|exact HB.out|apply bI|apply bF|apply bH)|exact HB.out)⟩⟩
    ·rw [if_neg c4] at H
     exact absurd H (by simp)
   ·rw [if_neg c2] at H
    have c2b0:decide (x7_1<(l0.length:Int))=false:=bJ c2
    clear c2;obtain rfl:=bC H;go_wp2;go_ret;exact ⟨_,by first|rfl|(simp [dF,dE]<;>rfl)|(simp [*,dF,dE]<;>rfl),by (with_reducible repeat (first|apply Kd.S_alloc|apply Kd.S_drewN|apply Kd.S_drew));exact HO_3.out,by repeat (first|(with_reducible first|exact HB.out|apply bI|apply bF|apply bH)|exact HB.out)⟩
def kB:Nat→List (List Int)→Int→Int→Bool→Option (Int)
  |0,_,_,_,_=>none
  |k+1,x0,x1,x2,x7=>if x7=true then ((dO 0 x2 6).bind fun t319=>(if t319=true then (some (wrap64 (2+x2))) else (some 0))) else (if x1≥0 then (if x1<(x0.length:Int) then (if 0≤x1 then (some (wrap64 (1+((bGz x0 x1).length:Int)))) else (none)) else (some 0)) else (some 0))
def vZ (k:Nat) (l0:List (List Int)) (a1:Int) (a2:Int):Option (Int):=if a1=(-1) then (kB k l0 a1 a2 true) else (kB k l0 a1 a2 (a1==(-2)))
theorem bBd (k:Nat) (A0:Option Addr) (c0:Nat) (l0:List (List Int)) (a1:Int) (a2:Int) (r:Int) (w:World) (hr0:Kd.C (Kd.slice 3 (Kd.int .i64)) w A0 l0.length l0) (hc0:l0.length≤c0) (h:vZ k l0 a1 a2=some r):
  Calls Tryz.prog 140 #[.slice A0 l0.length c0,.int .i64 a1,.int .i64 a2] w fun e w'=>e= .returned (.int .i64 r)∧Drawn0 w w':=by
 have HR0:=aK hr0;have HC0:=aK hc0;clear hr0 hc0;have H:(if a1=(-1) then (kB k l0 a1 a2 true) else (kB k l0 a1 a2 (a1==(-2))))=some r:=h
 clear h;have HC4:=aK H;clear H;go_enter Tryz.func140,Tryz.ntmps140
 go_upto_region 1 with (fail)
 go_cut [7] (fun v7 wc=> ∃(kq:Nat) (x7_3:Bool),v7= .bool x7_3∧Aside0 (kB kq l0 a1 a2 x7_3=some r)∧Aside0 (kq≤k)∧Drawn0 w wc)
 case first=>
  have H:=HC4.out;clear HC4;by_cases c5:a1=(-1)
  ·rw [if_pos c5] at H
   have c5b0:(a1==(-1))=true:=beq_iff_eq.mpr c5
   have c5b1:(a1 !=(-1))=false:=bne_eq_false_iff_eq.mpr c5
   clear c5
   (first|rw [c5b0]|(simp only [mC,qF];rw [c5b0])|skip)
   have H':=aK H;clear H;go_wp2;go_meet
   case rel=>exact ⟨_,(true),kG,H',⟨by first|omega|exact bV _⟩,by repeat (first|exact Drawn0.refl _|apply Drawn0.step)⟩
  ·rw [if_neg c5] at H
   have c5b0:(a1==(-1))=false:=tP.mpr c5
   have c5b1:(a1 !=(-1))=true:=bne_iff_ne.mpr c5
   (first|rw [c5b0]|(simp only [mC,qF];rw [c5b0])|skip)
   have H':=aK H;clear H;go_wp2;go_meet
   case rel=>exact ⟨_,((a1==(-2))),kG,H',⟨by first|omega|exact bV _⟩,by repeat (first|exact Drawn0.refl _|apply Drawn0.step)⟩
 case rest =>
  clear HC4;(try clear c1);(try clear p2);(try clear c5);(try clear c5b0);(try clear c5b1);obtain ⟨kq,x7_3,rfl,HA,HJ3,⟨mc3,rfl⟩⟩:=hcut
  cases kq with
  |zero=>exact absurd HA.out (by simp [kB])
  | succ kj3 =>
   have H:=HA.out;clear HA;simp only [kB] at H;by_cases c6:x7_3=true
   ·subst c6
    rw [if_pos rfl] at H;replace H:=Option.bind_eq_some_iff.mp H;obtain ⟨t319,A70,H⟩:=H;(try dsimp only at H);have A7:=aK A70;clear A70;by_cases c8:t319=true
    ·subst c8
     rw [if_pos rfl] at H;obtain rfl:=bC H
     go_wp2_with (first|((with_reducible refine cD (f:=136) rfl ?_);refine dT (some 15) rfl rfl Tryz.func136 (by kernel_rfl) rfl #[.int .i64 0,.int .i64 a2,.int .i64 6] rfl mO ?_;(with_reducible refine (dB 0 a2 6 true _ A7.out).mono ?_);rintro e w' ⟨rfl,⟨nd,rfl⟩⟩;refine ⟨_,rfl,?_⟩))
     go_ret;exact ⟨kG,nP⟩
    ·replace c8 := Bool.eq_false_iff.mpr c8
     subst c8;rw [if_neg (show¬(false=true) by decide)] at H;obtain rfl:=bC H
     go_wp2_with (first|((with_reducible refine cD (f:=136) rfl ?_);refine dT (some 15) rfl rfl Tryz.func136 (by kernel_rfl) rfl #[.int .i64 0,.int .i64 a2,.int .i64 6] rfl mO ?_;(with_reducible refine (dB 0 a2 6 false _ A7.out).mono ?_);rintro e w' ⟨rfl,⟨nd,rfl⟩⟩;refine ⟨_,rfl,?_⟩))
     go_ret;exact ⟨kG,nP⟩
   ·replace c6 := Bool.eq_false_iff.mpr c6
    subst c6;rw [if_neg (show¬(false=true) by decide)] at H;by_cases c9:a1≥0
    ·rw [if_pos c9] at H
     have c9b0:decide (0≤a1)=true:=bB c9
     clear c9;by_cases c10:a1<(l0.length:Int)
     ·rw [if_pos c10] at H
      have c10b0:decide (a1<(l0.length:Int))=true:=bB c10
      clear c10;by_cases c11:0≤a1
      ·rw [if_pos c11] at H
       have c11b0:decide (0≤a1)=true:=bB c11
       clear c11;obtain rfl:=bC H;have p320:0≤(a1:Int):=bA fU
       have q320:a1<(l0.length:Int):=bA fU
       obtain ⟨ad320,A320_0,c320_0,e320,hx320_0,hl320_0,hi320_0⟩:=at_L1 HR0.out a1 p320 q320
       cases e320
       have HR320_0:=aK hi320_0;have HC320_0:=aK hl320_0;clear hi320_0 hl320_0;replace p320:=bL p320;replace q320:=bL q320;go_wp2;go_ret;exact ⟨kG,nP⟩
      ·rw [if_neg c11] at H
       exact absurd H (by simp)
     ·rw [if_neg c10] at H
      have c10b0:decide (a1<(l0.length:Int))=false:=bJ c10
      clear c10;obtain rfl:=bC H;go_wp2;go_ret;exact ⟨kG,nP⟩
    ·rw [if_neg c9] at H
     have c9b0:decide (0≤a1)=false:=bJ c9
     clear c9;obtain rfl:=bC H;go_wp2;go_ret;exact ⟨kG,nP⟩
def MO (w:World) (b g:Nat) (m:Mm):Prop:= ∃AW cW AC cC AF cF AB cB,
 w.heap[g]? =some (.cells #[.slice AW m.words.length cW,.int .i64 m.young,.int .i64 m.top,.int .i64 m.old,.slice AC m.cards.length cC,.slice AF m.fields.length cF,.slice AB m.begins.length cB] 85 (0,0))∧b≤g∧m.fields.length≤cF∧
 Kd.R (Kd.int .i64) 3 w b (fun k=>(k≠g∧some k≠(Value.slice AC m.cards.length cC).ownBlock)∧some k≠(Value.slice AB m.begins.length cB).ownBlock) (.slice AW m.words.length cW) m.words∧
 Kd.R Kd.bool 4 w b (fun k=>(k≠g∧some k≠(Value.slice AW m.words.length cW).ownBlock)∧some k≠(Value.slice AB m.begins.length cB).ownBlock) (.slice AC m.cards.length cC) m.cards∧
 Kd.F (Kd.slice 3 (Kd.int .i64)) w (fun k=>((k≠g∧some k≠(Value.slice AW m.words.length cW).ownBlock)∧some k≠(Value.slice AC m.cards.length cC).ownBlock)∧some k≠(Value.slice AB m.begins.length cB).ownBlock) AF m.fields.length m.fields∧
 Kd.R (Kd.int .i64) 3 w b (fun k=>(k≠g∧some k≠(Value.slice AW m.words.length cW).ownBlock)∧some k≠(Value.slice AC m.cards.length cC).ownBlock) (.slice AB m.begins.length cB) m.begins
theorem sH {w w':World} {b g:Nat} {m:Mm} (h:MO w b g m) (hb:Below w.heap.size w w'):MO w' b g m:=by
  obtain ⟨AW,cW,AC,cC,AF,cF,AB,cB,h0,hg,hf,h1,h2,h3,h4⟩:=h;exact ⟨AW,cW,AC,cC,AF,cF,AB,cB,(hb.block g (cK h0)).trans h0,hg,hf,cA h1 hb,cA h2 hb,Kd.F_below h3 hb,cA h4 hb⟩
theorem bEo {w:World} {b g:Nat} {m:Mm} (h:MO w b g m):MV w g m:=by
  obtain ⟨AW,cW,AC,cC,AF,cF,AB,cB,h0,hg,hf,h1,h2,h3,h4⟩:=h;exact ⟨AW,cW,AC,cC,AF,cF,AB,cB,h0,(bR h1).2.2,(bR h2).2.2,Kd.F_now h3,(bR h4).2.2,(bR h1).2.1,(bR h2).2.1,hf,(bR h4).2.1⟩
theorem bFp {w w1:World} {b g:Nat} {m:Mm} {AW:Option Addr} {cW:Nat} {AC:Option Addr} {cC:Nat} {AF:Option Addr} {cF:Nat} {AB:Option Addr} {cB:Nat} {AN:Option Addr} {cN:Nat} {ys acc:List Int}
  (h0:w.heap[g]? =some (.cells #[.slice AW m.words.length cW,.int .i64 m.young,.int .i64 m.top,.int .i64 m.old,.slice AC m.cards.length cC,.slice AF m.fields.length cF,.slice AB acc.length cB] 85 (0,0))) (hg:b≤g) (hf:m.fields.length≤cF)
  (h1:Kd.R (Kd.int .i64) 3 w b (fun k=>(k≠g∧some k≠(Value.slice AC m.cards.length cC).ownBlock)∧some k≠(Value.slice AB acc.length cB).ownBlock) (.slice AW m.words.length cW) m.words)
  (h2:Kd.R Kd.bool 4 w b (fun k=>(k≠g∧some k≠(Value.slice AW m.words.length cW).ownBlock)∧some k≠(Value.slice AB acc.length cB).ownBlock) (.slice AC m.cards.length cC) m.cards)
  (h3:Kd.F (Kd.slice 3 (Kd.int .i64)) w (fun k=>((k≠g∧some k≠(Value.slice AW m.words.length cW).ownBlock)∧some k≠(Value.slice AC m.cards.length cC).ownBlock)∧some k≠(Value.slice AB acc.length cB).ownBlock) AF m.fields.length m.fields)
  (h4:Kd.R (Kd.int .i64) 3 w b (fun k=>(k≠g∧some k≠(Value.slice AW m.words.length cW).ownBlock)∧some k≠(Value.slice AC m.cards.length cC).ownBlock) (.slice AB acc.length cB) acc)
  (hn:Kd.R (Kd.int .i64) 3 w1 b (fun k=>(k≠g∧some k≠(Value.slice AW m.words.length cW).ownBlock)∧some k≠(Value.slice AC m.cards.length cC).ownBlock) (.slice AN ys.length cN) ys)
  (hgr:w.grownBy w1 (Value.slice AB acc.length cB).ownBlock) (hat:(Value.slice AN ys.length cN).ownBlock=(Value.slice AB acc.length cB).ownBlock∨∃k,(Value.slice AN ys.length cN).ownBlock=some k∧w.heap.size≤k):
  MO (w1.setCell ⟨g,6,none⟩ (.slice AN ys.length cN)) b g {m with begins:=ys}:=
 ⟨AW, cW, AC, cC, AF, cF, AN, cN, gC (qJ h0 hgr (Kd.R_away h4 (fun _ hk => hk.1.1))) 6 _ rfl, hg, hf,
  mL (Kd.R_after h1 hgr hat) (fun _ hk=>hk.1.1) _,mL (Kd.R_after h2 hgr hat) (fun _ hk=>hk.1.1) _,Kd.F_far (Kd.F_after h3 hgr hat) (fun _ hk=>hk.1.1.1) _,mL hn (fun _ hk=>hk.1.1) _⟩
def mN (F:List (List Int)) (c n:Int):Int:=if c= -1∨c= -2 then (if 0≤n∧n≤6 then 2+n else 0) else if 0≤c∧c<F.length then 1+((bEp F c).length:Int) else 0
def bCl (F:List (List Int)):Prop:= ∀c:Int,0≤c→c<F.length→(bEp F c).length≤4294967296
theorem bIn {F:List (List Int)} (hF:bCl F) (c n:Int):vZ 1 F c n=some (mN F c n):=by
 have w1: ∀x:Int,dO 0 x 6=some (decide (0≤x∧x≤6)):=fun x=>by
  unfold dO;by_cases a:0≤x<;>by_cases b:x≤6<;>simp [a,b]
 have key: ∀t:Bool,kB 1 F c n t=if t=true then (if 0≤n∧n≤6 then some (2+n) else some 0) else if 0≤c∧c<F.length then some (1+((bEp F c).length:Int)) else some 0:=fun t=>by
  show kB (0+1) F c n t=_
  rw [kB,w1]
  cases t with
  | true =>
   simp only [if_pos,bD]
   by_cases a:0≤n∧n≤6
   ·rw [if_pos (bB a), if_pos a]
    congr 1
    unfold wrap64;omega
   ·rw [if_neg (by simpa using a),if_neg a]
  | false =>
   simp only [nI,if_false]
   by_cases h3:c≥0
   ·rw [if_pos h3]
    by_cases h4:c<(F.length:Int)
    ·rw [if_pos h4, if_pos (show 0 ≤ c from h3), if_pos ⟨h3, h4⟩]
     have:=hF c h3 h4
     show some (wrap64 (1+((bEp F c).length:Int)))=_
     congr 1
     unfold wrap64;omega
    ·rw [if_neg h4,if_neg (fun h=>h4 h.2)]
   ·rw [if_neg h3,if_neg (fun h=>h3 h.1)]
 unfold vZ mN;rw [key,key];by_cases h1:c= -1
 ·rw [if_pos h1, if_pos rfl, if_pos (Or.inl h1)]
  by_cases a:0≤n∧n≤6
  ·rw [if_pos a,if_pos a]
  ·rw [if_neg a,if_neg a]
 ·rw [if_neg h1]
  by_cases h2:c= -2
  ·rw [if_pos (beq_iff_eq.mpr h2), if_pos (Or.inr h2)]
   by_cases a:0≤n∧n≤6
   ·rw [if_pos a,if_pos a]
   ·rw [if_neg a,if_neg a]
  ·rw [if_neg (by simpa using h2), if_neg (show ¬ (c = -1 ∨ c = -2) from fun h => h.elim h1 h2)]
   by_cases a:0≤c∧c<(F.length:Int)
   ·rw [if_pos a,if_pos a]
   ·rw [if_neg a,if_neg a]
theorem bBo (F:List (List Int)) (c n:Int):0≤mN F c n:=by
 unfold mN
 split
 ·split<;>omega
 ·split<;>omega
theorem bHb {F:List (List Int)} (hF:bCl F) (c n:Int):mN F c n≤4294967297:=by
 unfold mN
 split
 ·split<;>omega
 ·split
  case isTrue h=>have:=hF c h.1 h.2;omega
  case isFalse=>omega
theorem qI (AF:Option Addr) (cF:Nat) (F:List (List Int)) (c n s:Int) (w:World) (hr:Kd.C (Kd.slice 3 (Kd.int .i64)) w AF F.length F) (hc:F.length≤cF) (hF:bCl F) (hs:mN F c n=s):
    Calls Tryz.prog 140 #[.slice AF F.length cF,.int .i64 c,.int .i64 n] w fun e w'=>e= .returned (.int .i64 s)∧Below w.heap.size w w':=
  (bBd 1 AF cF F c n s w hr hc (by rw [bIn hF,hs])).mono (fun e w' h=>⟨h.1,h.2.below⟩)
def jK (ws:List Int) (F:List (List Int)) (hi x:Int):Int:=
  if rd ws x<0 then (if x+1<hi then (if mN F (rd ws x) (rd ws (x+1))≤hi - x then mN F (rd ws x) (rd ws (x+1)) else 0) else 0)
  else (if mN F (rd ws x) 0≤hi - x then mN F (rd ws x) 0 else 0)
def bAo (ws:List Int) (F:List (List Int)) (hi:Int):Nat→Int→List Int→Option (Bool×List Int)
  |0,_,_=>none
  |k+1,x,acc=>if x<hi then (if jK ws F hi x=0 then some (false,acc) else bAo ws F hi k (x+jK ws F hi x) (acc++[x+1])) else some (true,acc)
theorem zN (ws:List Int) (F:List (List Int)) (hi x:Int):jK ws F hi x=0∨(0<jK ws F hi x∧jK ws F hi x≤hi - x):=by
 unfold jK;have h1:=bBo F (rd ws x) (rd ws (x+1));have h2:=bBo F (rd ws x) 0;repeat' split
 all_goals omega
theorem nQ (b g:Nat) (m:Mm) (from_ hi:Int) (q:Nat) (r:Bool×List Int) (w:World) (hm:MO w b g m) (hb:b≤w.heap.size) (h0:0≤from_) (h1:hi≤m.words.length) (h2:m.words.length≤1048576) (h3:m.begins.length≤1048576) (h4:bCl m.fields)
  (h:bAo m.words m.fields hi q from_ m.begins=some r):
  Calls Tryz.prog 93 #[.pointer (some ⟨g,0,none⟩),.int .i64 from_,.int .i64 hi] w fun e w'=>e= .returned (.bool r.1)∧MO w' b g {m with begins:=r.2}∧Below b w w':=by
 have HM:=aK hm;have HBs:=aK hb;have H0:=aK h0;have H1:=aK h1;have H2:=aK h2;have H3:=aK h3;have H4:=aK h4;have HW:=aK h;clear hm hb h0 h1 h2 h3 h4 h;go_enter Tryz.func93,Tryz.ntmps93;go_wp2
 go_loopw [7] (fun i wr=> ∃(k:Nat) (x:Int) (acc:List Int),i= .int .i64 x∧Aside0 (bAo m.words m.fields hi k x acc=some r)∧Aside0 (0≤x)∧Aside0 (acc.length≤m.begins.length+x.toNat)∧Aside0 (MO wr b g {m with begins:=acc})∧Aside0 (Below b w wr)) (fun i _=>(hi - intOf i).toNat)
 case atStart=>exact ⟨q,from_,m.begins,rfl,HW,H0,⟨by omega⟩,HM,⟨bQ _ _⟩⟩
 case round =>
  obtain ⟨k,x,acc,rfl,HA,HX,HL,HO,HB0⟩:=hrel
  cases k with
  |zero=>exact absurd HA.out (by simp [bAo])
  | succ k1 =>
   have H:=HA.out;clear HA;unfold bAo at H;by_cases c0:x<hi
   ·rw [if_pos c0] at H
    have d0:decide (x<hi)=true:=bB c0
    have HV:=aK (bEo HO.out);obtain ⟨AW,cW,AC,cC,AF,cF,AB,cB,g0,hg,hf,r1,r2,r3,r4⟩:=HO.out;have hx:=HX.out;have hl1:=H1.out;have hl2:=H2.out;obtain ⟨ad,e0,hcell⟩:=dA (bR r1).2.2 x (by omega) (by show x<(m.words.length:Int);omega)
    cases e0
    have R1:=aK r1;have R2:=aK r2;have R3:=aK r3;have R4:=aK r4;have G0:=aK g0;have HF:=aK hf;have HGb:=aK hg;have p1:=bL hx;have p2:=bL (show x<(m.words.length:Int) by omega);have k0:=(bK g0 0).trans rfl;have k5:=(bK g0 5).trans rfl;have k6:=(bK g0 6).trans rfl;obtain ⟨u,hu⟩: ∃u,rd m.words x=u:=⟨_,rfl⟩;have HU:=aK hu;replace hcell:wr.cell? (ad.add x.toNat)=some (.int .i64 u):=by rw [←hu];exact hcell
    obtain ⟨x1,hx1⟩: ∃x1,x1=x+1:=⟨_,rfl⟩;have q1:IntKind.i64.wrap (x+1)=x1:=by rw [hx1];exact hZ _ ⟨by omega,by omega⟩
    have HX1:=aK hx1;have HC0:=aK c0;clear r1 r2 r3 r4 g0 hg hf hu c0;by_cases c1:u<0
    ·have d1 : decide (u < 0) = true := bB c1
     by_cases c2:x+1<hi
     ·have d2 : decide (x1 ≥ hi) = false := bJ (by omega)
      obtain ⟨ad2,e0,hcell2⟩:=dA (bR R1.out).2.2 x1 (by omega) (by show x1<(m.words.length:Int);omega)
      cases e0
      have p3:=bL (show 0≤x1 by omega);have p4:=bL (show x1<(m.words.length:Int) by omega);obtain ⟨n,hn⟩: ∃n,rd m.words x1=n:=⟨_,rfl⟩;replace hcell2:wr.cell? (ad.add x1.toNat)=some (.int .i64 n):=by rw [←hn];exact hcell2
      obtain ⟨s,hs⟩: ∃s,mN m.fields u n=s:=⟨_,rfl⟩;have HS:=aK hs;have HST:=aK (show jK m.words m.fields hi x=if s≤hi - x then s else 0 by unfold jK;rw [HU.out,if_pos c1,if_pos c2,←hx1,hn,hs]);clear hs hn c1 c2;have HFC:=aK (Kd.F_now R3.out);have HB:=aK (bQ wr.heap.size wr);have HM1:=aK (bEo HO.out);have hs0:=bBo m.fields u n;rw [HS.out] at hs0;have hs1:=bHb H4.out u n;rw [HS.out] at hs1;obtain ⟨t,ht⟩: ∃t,t=hi - x:=⟨_,rfl⟩;have q2:IntKind.i64.wrap (hi - x)=t:=by rw [ht];exact hZ _ ⟨by have:=HC0.out;omega,by omega⟩
      by_cases z0:s=0
      ·have e1 : (s == 0) = true := beq_iff_eq.mpr z0
       have hz:jK m.words m.fields hi x=0:=by rw [HST.out];split<;>omega
       rw [if_pos hz] at H;have HR:=aK (bC H);clear H hz ht hs0 hs1 z0 hl1 hl2 hx1 hx;go_wp2;refine sT 15 (S:=fun w'=>Aside0 (Below wr.heap.size wr w')∧Aside0 (MV w' g ({m with begins:=acc}))∧w'.cell? (⟨g,0,none⟩)=some (.slice (some ad) m.words.length cW)∧w'.cell? (⟨g,5,none⟩)=some (.slice AF m.fields.length cF)∧w'.cell? (ad.add x.toNat)=some (.int .i64 u)∧w'.cell? (⟨g,6,none⟩)=some (.slice AB acc.length cB)) (ds:=[]) ⟨⟨bH HB.out⟩,⟨cP HM1.out (bH (bQ _ _))⟩,(by go_simp),(by go_simp),(by go_simp),(by go_simp)⟩ (fun hHeld=>?_);refine dL 0 ?_;refine dL 1 ?_;refine dL 2 ?_;refine dL 4 ?_;refine dL 5 ?_;refine dL 6 ?_;refine dL 7 ?_;refine dL 9 ?_;refine dL 12 ?_;refine tS 3 39 (lA 15 4863) rfl rfl (by kernel_rfl) hHeld pD ?_;refine tS 8 44 (lA 15 5119) rfl rfl (by kernel_rfl) hHeld pD ?_;refine dL 10 ?_;refine tS 11 47 (lA 15 8191) rfl rfl (by kernel_rfl) hHeld pD ?_;refine oS 13 49 (lA 15 16383) rfl rfl (fun K hK=>?_);refine gO Tryz.func140 #[.slice AF m.fields.length cF,.int .i64 u,.int .i64 n] ?_;(with_reducible refine (qI AF cF m.fields u n s _ (bS HFC.out hHeld.1.out) HF.out H4.out HS.out).mono ?_);rintro e w3 ⟨rfl,hb3⟩;refine ⟨_,rfl,?_⟩;refine hK.out _ _ ⟨⟨bG hHeld.1.out hb3⟩,⟨cP hHeld.2.1.out hb3⟩,(bIy hb3 hHeld.2.2)⟩ (fun hHeld=>?_);clear hK K;refine nS 49 ?_;refine dL 14 ?_;refine kX (by kernel_rfl) ?_;go_wp2;go_ret;exact ⟨by rw [←HR.out];rfl,by rw [←HR.out];exact sH HO.out hHeld.1.out,pY HB0.out (dW HBs.out HB0.out.size) hHeld.1.out⟩
      have e1:(s==0)=false:=tP.mpr z0
      by_cases z1:s>t
      ·have e2 : decide (s > t) = true := bB z1
       have hz:jK m.words m.fields hi x=0:=by rw [HST.out];split<;>omega
       rw [if_pos hz] at H;have HR:=aK (bC H);clear H hz ht hs0 hs1 z0 z1 hl1 hl2 hx1 hx;go_wp2;refine sT 15 (S:=fun w'=>Aside0 (Below wr.heap.size wr w')∧Aside0 (MV w' g ({m with begins:=acc}))∧w'.cell? (⟨g,0,none⟩)=some (.slice (some ad) m.words.length cW)∧w'.cell? (⟨g,5,none⟩)=some (.slice AF m.fields.length cF)∧w'.cell? (ad.add x.toNat)=some (.int .i64 u)∧w'.cell? (⟨g,6,none⟩)=some (.slice AB acc.length cB)) (ds:=[]) ⟨⟨bH HB.out⟩,⟨cP HM1.out (bH (bQ _ _))⟩,(by go_simp),(by go_simp),(by go_simp),(by go_simp)⟩ (fun hHeld=>?_);refine dL 0 ?_;refine dL 1 ?_;refine dL 2 ?_;refine dL 4 ?_;refine dL 5 ?_;refine dL 6 ?_;refine dL 7 ?_;refine dL 9 ?_;refine dL 12 ?_;refine tS 3 39 (lA 15 4863) rfl rfl (by kernel_rfl) hHeld pD ?_;refine tS 8 44 (lA 15 5119) rfl rfl (by kernel_rfl) hHeld pD ?_;refine dL 10 ?_;refine tS 11 47 (lA 15 8191) rfl rfl (by kernel_rfl) hHeld pD ?_;refine oS 13 49 (lA 15 16383) rfl rfl (fun K hK=>?_);refine gO Tryz.func140 #[.slice AF m.fields.length cF,.int .i64 u,.int .i64 n] ?_;(with_reducible refine (qI AF cF m.fields u n s _ (bS HFC.out hHeld.1.out) HF.out H4.out HS.out).mono ?_);rintro e w3 ⟨rfl,hb3⟩;refine ⟨_,rfl,?_⟩;refine hK.out _ _ ⟨⟨bG hHeld.1.out hb3⟩,⟨cP hHeld.2.1.out hb3⟩,(bIy hb3 hHeld.2.2)⟩ (fun hHeld=>?_);clear hK K;refine nS 49 ?_;refine dL 14 ?_;refine kX (by kernel_rfl) ?_;go_wp2;go_ret;exact ⟨by rw [←HR.out];rfl,by rw [←HR.out];exact sH HO.out hHeld.1.out,pY HB0.out (dW HBs.out HB0.out.size) hHeld.1.out⟩
      ·have e2 : decide (s > t) = false := bJ z1
       have hz:jK m.words m.fields hi x=s:=by rw [HST.out,if_pos (by omega)]
       rw [hz,if_neg z0,←HX1.out] at H;obtain ⟨x2,hx2⟩: ∃x2,x2=x+s:=⟨_,rfl⟩;have q3:IntKind.i64.wrap (x+s)=x2:=by rw [hx2];exact hZ _ ⟨by omega,by omega⟩
       rw [←hx2] at H;have H':=aK H;have HX2:=aK hx2;have HT:=aK ht;have HZ:=aK (show 0<s∧s≤t by omega);clear H ht hs0 hs1 z0 z1 hl1 hl2 hz hx2 hx1 hx;go_wp2;refine sT 15 (S:=fun w'=>Aside0 (Below wr.heap.size wr w')∧Aside0 (MV w' g ({m with begins:=acc}))∧w'.cell? (⟨g,0,none⟩)=some (.slice (some ad) m.words.length cW)∧w'.cell? (⟨g,5,none⟩)=some (.slice AF m.fields.length cF)∧w'.cell? (ad.add x.toNat)=some (.int .i64 u)∧w'.cell? (⟨g,6,none⟩)=some (.slice AB acc.length cB)) (ds:=[]) ⟨⟨bH HB.out⟩,⟨cP HM1.out (bH (bQ _ _))⟩,(by go_simp),(by go_simp),(by go_simp),(by go_simp)⟩ (fun hHeld=>?_);refine dL 0 ?_;refine dL 1 ?_;refine dL 2 ?_;refine dL 4 ?_;refine dL 5 ?_;refine dL 6 ?_;refine dL 7 ?_;refine dL 9 ?_;refine dL 12 ?_;refine tS 3 39 (lA 15 4863) rfl rfl (by kernel_rfl) hHeld pD ?_;refine tS 8 44 (lA 15 5119) rfl rfl (by kernel_rfl) hHeld pD ?_;refine dL 10 ?_;refine tS 11 47 (lA 15 8191) rfl rfl (by kernel_rfl) hHeld pD ?_;refine oS 13 49 (lA 15 16383) rfl rfl (fun K hK=>?_);refine gO Tryz.func140 #[.slice AF m.fields.length cF,.int .i64 u,.int .i64 n] ?_;(with_reducible refine (qI AF cF m.fields u n s _ (bS HFC.out hHeld.1.out) HF.out H4.out HS.out).mono ?_);rintro e w3 ⟨rfl,hb3⟩;refine ⟨_,rfl,?_⟩;refine hK.out _ _ ⟨⟨bG hHeld.1.out hb3⟩,⟨cP hHeld.2.1.out hb3⟩,(bIy hb3 hHeld.2.2)⟩ (fun hHeld=>?_);clear hK K;refine nS 49 ?_;refine dL 14 ?_;refine kX (by kernel_rfl) ?_;have HB2:=hHeld.1;have k6:=hHeld.2.2.2.2.2;clear hHeld HB HM1 HFC HV;have GN:=aK ((HB2.out.block g (cK G0.out)).trans G0.out);have HS3:=aK (show b≤w3.heap.size from dW (dW HBs.out HB0.out.size) HB2.out.size)
       go_wp2_with ((with_reducible refine kR (b:= .append) (xs:= #[.tmp 63,.tmp 66]) rfl ?_);at_builtin;refine Kd.R_append (Kd.int .i64) (w0:=w) b rfl (.tmp 63) (.tmp 66) 24 3 (.int .i64 0) 8 rfl Tryz.underlying24 tB rfl (by decide) (by omega) (.slice AB acc.length cB) acc x1 [.int .i64 x1] (fun k=>(k≠g∧some k≠(Value.slice (some ad) m.words.length cW).ownBlock)∧some k≠(Value.slice AC m.cards.length cC).ownBlock) (fun _=>False) rfl rfl ?aP (fun _ hk=>hk.elim) ?aF ?aO ?aB ?aS ?aL ?_;(case aP=>exact rfl);(case aB=>exact pY HB0.out (dW HBs.out HB0.out.size) HB2.out);(case aF=>exact fun k hk=>⟨⟨by have:=cK GN.out;omega,fun e=>by have:=rN (cA R1.out HB2.out) k e.symm;omega⟩,fun e=>by have:=rN (cA R2.out HB2.out) k e.symm;omega⟩);(case aO=>exact cA R4.out HB2.out);(case aS=>exact HS3.out);(case aL=>have:=HL.out;have:=H3.out;have:=H1.out;have:=H2.out;have:=HC0.out;omega);intro v67 w5 ho hbn hgr hat;obtain ⟨AN,cN,rfl⟩:=cH ho;have HMO:=aK (bFp GN.out HGb.out HF.out (cA R1.out HB2.out) (cA R2.out HB2.out) (Kd.F_below R3.out HB2.out) (cA R4.out HB2.out) ho hgr hat);have HBN:=aK (show Below b w (w5.setCell ⟨g,6,none⟩ (.slice AN (acc++[x1]).length cN)) from hbn.setCell HGb.out _);have GW:=aK (qJ GN.out hgr (Kd.R_away (cA R4.out HB2.out) (fun _ hk=>hk.1.1)));have n6:=(bK GW.out 6).trans rfl;have nf6:=fK GW.out 6;clear ho hbn hgr hat)
       go_roundw
       case rel=>exact ⟨k1,x2,acc++[x1],rfl,H',⟨by have:=HX2.out;have:=HZ.out;have:=HX.out;omega⟩,⟨by have:=HL.out;have:=HX2.out;have:=HZ.out;have:=HX.out;rw [cG,gD];omega⟩,by rw [show acc.length+1=(acc++[x1]).length by simp];exact HMO,by rw [show acc.length+1=(acc++[x1]).length by simp];exact HBN⟩
       case measure=>have:=HX2.out;have:=HZ.out;have:=HT.out;show (hi - x2).toNat<(hi - x).toNat;omega
     ·have d2 : decide (x1 ≥ hi) = true := bB (by omega)
      have hz:jK m.words m.fields hi x=0:=by unfold jK;rw [HU.out,if_pos c1,if_neg c2]
      rw [if_pos hz] at H;have HR:=aK (bC H);clear H hz c1 c2 hx1 hx hl1 hl2;go_wp2;go_ret;exact ⟨by rw [←HR.out];rfl,by rw [←HR.out];exact HO.out,HB0.out⟩
    ·have d1 : decide (u < 0) = false := bJ c1
     obtain ⟨s,hs⟩: ∃s,mN m.fields u 0=s:=⟨_,rfl⟩;have HS:=aK hs;have HST:=aK (show jK m.words m.fields hi x=if s≤hi - x then s else 0 by unfold jK;rw [HU.out,if_neg c1,hs]);clear hs c1;have HFC:=aK (Kd.F_now R3.out);have HB:=aK (bQ wr.heap.size wr);have HM1:=aK (bEo HO.out);have hs0:=bBo m.fields u 0;rw [HS.out] at hs0;have hs1:=bHb H4.out u 0;rw [HS.out] at hs1;obtain ⟨t,ht⟩: ∃t,t=hi - x:=⟨_,rfl⟩;have q2:IntKind.i64.wrap (hi - x)=t:=by rw [ht];exact hZ _ ⟨by have:=HC0.out;omega,by omega⟩
     by_cases z0:s=0
     ·have e1 : (s == 0) = true := beq_iff_eq.mpr z0
      have hz:jK m.words m.fields hi x=0:=by rw [HST.out];split<;>omega
      rw [if_pos hz] at H;have HR:=aK (bC H);clear H hz ht hs0 hs1 z0 hl1 hl2 hx1 hx;go_wp2;refine sT 15 (S:=fun w'=>Aside0 (Below wr.heap.size wr w')∧Aside0 (MV w' g ({m with begins:=acc}))∧w'.cell? (⟨g,0,none⟩)=some (.slice (some ad) m.words.length cW)∧w'.cell? (⟨g,5,none⟩)=some (.slice AF m.fields.length cF)∧w'.cell? (ad.add x.toNat)=some (.int .i64 u)∧w'.cell? (⟨g,6,none⟩)=some (.slice AB acc.length cB)) (ds:=[]) ⟨⟨bH HB.out⟩,⟨cP HM1.out (bH (bQ _ _))⟩,(by go_simp),(by go_simp),(by go_simp),(by go_simp)⟩ (fun hHeld=>?_);refine dL 0 ?_;refine dL 1 ?_;refine dL 2 ?_;refine dL 4 ?_;refine dL 5 ?_;refine dL 6 ?_;refine dL 7 ?_;refine dL 9 ?_;refine dL 12 ?_;refine tS 3 39 (lA 15 4863) rfl rfl (by kernel_rfl) hHeld pD ?_;refine tS 8 44 (lA 15 5119) rfl rfl (by kernel_rfl) hHeld pD ?_;refine dL 10 ?_;refine tS 11 47 (lA 15 8191) rfl rfl (by kernel_rfl) hHeld pD ?_;refine oS 13 49 (lA 15 16383) rfl rfl (fun K hK=>?_);refine gO Tryz.func140 #[.slice AF m.fields.length cF,.int .i64 u,.int .i64 0] ?_;(with_reducible refine (qI AF cF m.fields u 0 s _ (bS HFC.out hHeld.1.out) HF.out H4.out HS.out).mono ?_);rintro e w3 ⟨rfl,hb3⟩;refine ⟨_,rfl,?_⟩;refine hK.out _ _ ⟨⟨bG hHeld.1.out hb3⟩,⟨cP hHeld.2.1.out hb3⟩,(bIy hb3 hHeld.2.2)⟩ (fun hHeld=>?_);clear hK K;refine nS 49 ?_;refine dL 14 ?_;refine kX (by kernel_rfl) ?_;go_wp2;go_ret;exact ⟨by rw [←HR.out];rfl,by rw [←HR.out];exact sH HO.out hHeld.1.out,pY HB0.out (dW HBs.out HB0.out.size) hHeld.1.out⟩
     have e1:(s==0)=false:=tP.mpr z0
     by_cases z1:s>t
     ·have e2 : decide (s > t) = true := bB z1
      have hz:jK m.words m.fields hi x=0:=by rw [HST.out];split<;>omega
      rw [if_pos hz] at H;have HR:=aK (bC H);clear H hz ht hs0 hs1 z0 z1 hl1 hl2 hx1 hx;go_wp2;refine sT 15 (S:=fun w'=>Aside0 (Below wr.heap.size wr w')∧Aside0 (MV w' g ({m with begins:=acc}))∧w'.cell? (⟨g,0,none⟩)=some (.slice (some ad) m.words.length cW)∧w'.cell? (⟨g,5,none⟩)=some (.slice AF m.fields.length cF)∧w'.cell? (ad.add x.toNat)=some (.int .i64 u)∧w'.cell? (⟨g,6,none⟩)=some (.slice AB acc.length cB)) (ds:=[]) ⟨⟨bH HB.out⟩,⟨cP HM1.out (bH (bQ _ _))⟩,(by go_simp),(by go_simp),(by go_simp),(by go_simp)⟩ (fun hHeld=>?_);refine dL 0 ?_;refine dL 1 ?_;refine dL 2 ?_;refine dL 4 ?_;refine dL 5 ?_;refine dL 6 ?_;refine dL 7 ?_;refine dL 9 ?_;refine dL 12 ?_;refine tS 3 39 (lA 15 4863) rfl rfl (by kernel_rfl) hHeld pD ?_;refine tS 8 44 (lA 15 5119) rfl rfl (by kernel_rfl) hHeld pD ?_;refine dL 10 ?_;refine tS 11 47 (lA 15 8191) rfl rfl (by kernel_rfl) hHeld pD ?_;refine oS 13 49 (lA 15 16383) rfl rfl (fun K hK=>?_);refine gO Tryz.func140 #[.slice AF m.fields.length cF,.int .i64 u,.int .i64 0] ?_;(with_reducible refine (qI AF cF m.fields u 0 s _ (bS HFC.out hHeld.1.out) HF.out H4.out HS.out).mono ?_);rintro e w3 ⟨rfl,hb3⟩;refine ⟨_,rfl,?_⟩;refine hK.out _ _ ⟨⟨bG hHeld.1.out hb3⟩,⟨cP hHeld.2.1.out hb3⟩,(bIy hb3 hHeld.2.2)⟩ (fun hHeld=>?_);clear hK K;refine nS 49 ?_;refine dL 14 ?_;refine kX (by kernel_rfl) ?_;go_wp2;go_ret;exact ⟨by rw [←HR.out];rfl,by rw [←HR.out];exact sH HO.out hHeld.1.out,pY HB0.out (dW HBs.out HB0.out.size) hHeld.1.out⟩
     ·have e2 : decide (s > t) = false := bJ z1
      have hz:jK m.words m.fields hi x=s:=by rw [HST.out,if_pos (by omega)]
      rw [hz,if_neg z0,←HX1.out] at H;obtain ⟨x2,hx2⟩: ∃x2,x2=x+s:=⟨_,rfl⟩;have q3:IntKind.i64.wrap (x+s)=x2:=by rw [hx2];exact hZ _ ⟨by omega,by omega⟩
      rw [←hx2] at H;have H':=aK H;have HX2:=aK hx2;have HT:=aK ht;have HZ:=aK (show 0<s∧s≤t by omega);clear H ht hs0 hs1 z0 z1 hl1 hl2 hz hx2 hx1 hx;go_wp2;refine sT 15 (S:=fun w'=>Aside0 (Below wr.heap.size wr w')∧Aside0 (MV w' g ({m with begins:=acc}))∧w'.cell? (⟨g,0,none⟩)=some (.slice (some ad) m.words.length cW)∧w'.cell? (⟨g,5,none⟩)=some (.slice AF m.fields.length cF)∧w'.cell? (ad.add x.toNat)=some (.int .i64 u)∧w'.cell? (⟨g,6,none⟩)=some (.slice AB acc.length cB)) (ds:=[]) ⟨⟨bH HB.out⟩,⟨cP HM1.out (bH (bQ _ _))⟩,(by go_simp),(by go_simp),(by go_simp),(by go_simp)⟩ (fun hHeld=>?_);refine dL 0 ?_;refine dL 1 ?_;refine dL 2 ?_;refine dL 4 ?_;refine dL 5 ?_;refine dL 6 ?_;refine dL 7 ?_;refine dL 9 ?_;refine dL 12 ?_;refine tS 3 39 (lA 15 4863) rfl rfl (by kernel_rfl) hHeld pD ?_;refine tS 8 44 (lA 15 5119) rfl rfl (by kernel_rfl) hHeld pD ?_;refine dL 10 ?_;refine tS 11 47 (lA 15 8191) rfl rfl (by kernel_rfl) hHeld pD ?_;refine oS 13 49 (lA 15 16383) rfl rfl (fun K hK=>?_);refine gO Tryz.func140 #[.slice AF m.fields.length cF,.int .i64 u,.int .i64 0] ?_;(with_reducible refine (qI AF cF m.fields u 0 s _ (bS HFC.out hHeld.1.out) HF.out H4.out HS.out).mono ?_);rintro e w3 ⟨rfl,hb3⟩;refine ⟨_,rfl,?_⟩;refine hK.out _ _ ⟨⟨bG hHeld.1.out hb3⟩,⟨cP hHeld.2.1.out hb3⟩,(bIy hb3 hHeld.2.2)⟩ (fun hHeld=>?_);clear hK K;refine nS 49 ?_;refine dL 14 ?_;refine kX (by kernel_rfl) ?_;have HB2:=hHeld.1;have k6:=hHeld.2.2.2.2.2;clear hHeld HB HM1 HFC HV;have GN:=aK ((HB2.out.block g (cK G0.out)).trans G0.out);have HS3:=aK (show b≤w3.heap.size from dW (dW HBs.out HB0.out.size) HB2.out.size)
      go_wp2_with ((with_reducible refine kR (b:= .append) (xs:= #[.tmp 63,.tmp 66]) rfl ?_);at_builtin;refine Kd.R_append (Kd.int .i64) (w0:=w) b rfl (.tmp 63) (.tmp 66) 24 3 (.int .i64 0) 8 rfl Tryz.underlying24 tB rfl (by decide) (by omega) (.slice AB acc.length cB) acc x1 [.int .i64 x1] (fun k=>(k≠g∧some k≠(Value.slice (some ad) m.words.length cW).ownBlock)∧some k≠(Value.slice AC m.cards.length cC).ownBlock) (fun _=>False) rfl rfl ?aP (fun _ hk=>hk.elim) ?aF ?aO ?aB ?aS ?aL ?_;(case aP=>exact rfl);(case aB=>exact pY HB0.out (dW HBs.out HB0.out.size) HB2.out);(case aF=>exact fun k hk=>⟨⟨by have:=cK GN.out;omega,fun e=>by have:=rN (cA R1.out HB2.out) k e.symm;omega⟩,fun e=>by have:=rN (cA R2.out HB2.out) k e.symm;omega⟩);(case aO=>exact cA R4.out HB2.out);(case aS=>exact HS3.out);(case aL=>have:=HL.out;have:=H3.out;have:=H1.out;have:=H2.out;have:=HC0.out;omega);intro v67 w5 ho hbn hgr hat;obtain ⟨AN,cN,rfl⟩:=cH ho;have HMO:=aK (bFp GN.out HGb.out HF.out (cA R1.out HB2.out) (cA R2.out HB2.out) (Kd.F_below R3.out HB2.out) (cA R4.out HB2.out) ho hgr hat);have HBN:=aK (show Below b w (w5.setCell ⟨g,6,none⟩ (.slice AN (acc++[x1]).length cN)) from hbn.setCell HGb.out _);have GW:=aK (qJ GN.out hgr (Kd.R_away (cA R4.out HB2.out) (fun _ hk=>hk.1.1)));have n6:=(bK GW.out 6).trans rfl;have nf6:=fK GW.out 6;clear ho hbn hgr hat)
      go_roundw
      case rel=>exact ⟨k1,x2,acc++[x1],rfl,H',⟨by have:=HX2.out;have:=HZ.out;have:=HX.out;omega⟩,⟨by have:=HL.out;have:=HX2.out;have:=HZ.out;have:=HX.out;rw [cG,gD];omega⟩,by rw [show acc.length+1=(acc++[x1]).length by simp];exact HMO,by rw [show acc.length+1=(acc++[x1]).length by simp];exact HBN⟩
      case measure=>have:=HX2.out;have:=HZ.out;have:=HT.out;show (hi - x2).toNat<(hi - x).toNat;omega
   ·rw [if_neg c0] at H
    have d0:decide (x<hi)=false:=bJ c0
    have HR:=aK (bC H);clear H c0;go_wp2;go_ret;exact ⟨by rw [←HR.out];rfl,by rw [←HR.out];exact HO.out,HB0.out⟩
theorem rJ (g:Nat) (at_:Int) (w:World):
  Calls Tryz.prog 94 #[.pointer (some ⟨g,0,none⟩),.int .i64 at_] w fun e w'=>e= .returned (bFu g at_)∧Below w.heap.size w w':=by
 unfold bFu;go_enter Tryz.func94,Tryz.ntmps94;go_wp2;refine tD (results_cell_row rfl _ _ w.heap.size 124 #[.pointer (some ⟨g,0,none⟩),.int .i64 at_] (0,0) _ rfl (pX _ _) Tryz.underlying124 rfl (by kernel_rfl)) rfl ?_;exact ⟨rfl,bI (bQ _ _) _⟩
end Go.Proofs.YtbaklikaoleplaaGreat.K
