import Derived.Test.YtbaklikaoleplaaPh24
import Derived.BigQuiet
set_option maxHeartbeats 16000000
set_option maxRecDepth 100000
namespace Go.Proofs.Ytbaklikaoleplaa.K
open Go.RowKit Go.Proofs.YtbaklikaoleplaaW.PrintWords Go.Proofs.YtbaklikaoleplaaW.PrintLast Go.Proofs.YtbaklikaoleplaaW.PrintMore
attribute [local go_sem] gD gB gY gW fR fQ gC gA
set_option linter.unusedVariables false
set_option linter.unusedSimpArgs false
theorem fP (a b c:Int):fJ a b c=some (decide (a≤b∧b≤c)):=by
 unfold fJ
 split
 ·rename_i h;simp [h]
 ·rename_i h;simp [h]
def xN (o:Int):Int:=wrap64 (Int.tdiv (wrap64 ((wrap64 (o+4)) - 1)) 4)
def rM (l0:List Int) (a1 a2 a3:Int) (l4:List Bool):Nat→Bool
 |0=>decide (0≤a1∧a1≤40)
 |1=>decide (14≤wrap64 (l0.length - a1)∧wrap64 (l0.length - a1)≤120)
 |2=>decide (0≤a2∧a2≤a1)
 |3=>decide (a1≤a3∧a3≤l0.length)
 |4=>((l4.length:Int)==xN (wrap64 (l0.length - a1)))
 |5=>((l0.take a1.toNat).drop a2.toNat).all (· ==0)
 |_=>((l0.drop a1.toNat).drop (a3 - a1).toNat).all (· ==0)
def kX (l0:List Int) (a1 a2 a3:Int) (l4:List Bool):Option Bool:=if l0.length≤281474976710656 then some
  (rM l0 a1 a2 a3 l4 0&&rM l0 a1 a2 a3 l4 1&&rM l0 a1 a2 a3 l4 2&&rM l0 a1 a2 a3 l4 3&&rM l0 a1 a2 a3 l4 4&&rM l0 a1 a2 a3 l4 5&&rM l0 a1 a2 a3 l4 6) else none
theorem yZ (A0:Option Addr) (c0:Nat) (l0:List Int) (a1 a2 a3:Int) (A4:Option Addr) (c4:Nat) (l4:List Bool) (r:Bool) (w:World) (hr0:Kd.C (Kd.int .i64) w A0 l0.length l0) (hc0:l0.length≤c0) (h:kX l0 a1 a2 a3 l4=some r):
  Calls Try.prog 66 #[.agg #[.slice A0 l0.length c0,.int .i64 a1,.int .i64 a2,.int .i64 a3,.slice A4 l4.length c4]] w fun e w'=>e= .returned (.bool r)∧Below w.heap.size w w':=by
 unfold kX at h
 split at h
 case isFalse=>simp at h
 case isTrue hl=>
 have HR:=aK (bE h);have HR0:=aK hr0;have HC0:=aK hc0;have HL:=aK hl;obtain ⟨o,ho⟩: ∃o,o=wrap64 ((l0.length:Int) - a1):=⟨_,rfl⟩;have HO:=aK ho;have q0:IntKind.i64.wrap ((l0.length:Int) - a1)=o:=by rw [ho,mN]
 have HB:=aK (bJ (bH w.heap.size w) (.cells #[.slice A0 l0.length c0,.int .i64 a1,.int .i64 a2,.int .i64 a3,.slice A4 l4.length c4] 29 (0,0)));have x0:(w.alloc (.cells #[.slice A0 l0.length c0,.int .i64 a1,.int .i64 a2,.int .i64 a3,.slice A4 l4.length c4] 29 (0,0))).cell? ⟨w.heap.size,0,none⟩=some (.slice A0 l0.length c0):=(bA (kU _ _) 0).trans rfl
 have x1:(w.alloc (.cells #[.slice A0 l0.length c0,.int .i64 a1,.int .i64 a2,.int .i64 a3,.slice A4 l4.length c4] 29 (0,0))).cell? ⟨w.heap.size,1,none⟩=some (.int .i64 a1):=(bA (kU _ _) 1).trans rfl
 have x2:(w.alloc (.cells #[.slice A0 l0.length c0,.int .i64 a1,.int .i64 a2,.int .i64 a3,.slice A4 l4.length c4] 29 (0,0))).cell? ⟨w.heap.size,2,none⟩=some (.int .i64 a2):=(bA (kU _ _) 2).trans rfl
 have x3:(w.alloc (.cells #[.slice A0 l0.length c0,.int .i64 a1,.int .i64 a2,.int .i64 a3,.slice A4 l4.length c4] 29 (0,0))).cell? ⟨w.heap.size,3,none⟩=some (.int .i64 a3):=(bA (kU _ _) 3).trans rfl
 have x4:(w.alloc (.cells #[.slice A0 l0.length c0,.int .i64 a1,.int .i64 a2,.int .i64 a3,.slice A4 l4.length c4] 29 (0,0))).cell? ⟨w.heap.size,4,none⟩=some (.slice A4 l4.length c4):=(bA (kU _ _) 4).trans rfl
 clear h hr0 hc0 hl ho
 cases h0:rM l0 a1 a2 a3 l4 0 with
 |false=>
  have B0:=aK h0;clear h0;have W1:=aK (show fJ 0 a1 40=some false by rw [fP];exact gF some (by have:=B0.out;unfold rM at this;exact this));have HZ:=aK (show false=r by rw [←HR.out,B0.out];rfl);clear B0;go_enter Try.func66,Try.ntmps66;go_wp2;refine sT 56 (S:=fun w'=>Aside0 (Below w.heap.size w w')∧w'.cell? ⟨w.heap.size,0,none⟩=some (.slice A0 l0.length c0)∧w'.cell? ⟨w.heap.size,1,none⟩=some (.int .i64 a1)∧w'.cell? ⟨w.heap.size,2,none⟩=some (.int .i64 a2)∧w'.cell? ⟨w.heap.size,3,none⟩=some (.int .i64 a3)∧w'.cell? ⟨w.heap.size,4,none⟩=some (.slice A4 l4.length c4)) (ds:=[]) ⟨⟨bG HB.out⟩,(by go_simp),(by go_simp),(by go_simp),(by go_simp),(by go_simp)⟩ (fun hHeld=>?_);refine cJ 0 ?_;refine tS 1 12 (lA 56 3) rfl rfl (by kernel_rfl) hHeld pK ?_;refine oS 2 13 (lA 56 7) rfl rfl (fun K hK=>?_);refine gO Try.func96 #[.int .i64 0,.int .i64 a1,.int .i64 40] ?_;(with_reducible refine (dW 0 a1 40 false _ W1.out).mono ?_);rintro e w3 ⟨rfl,⟨n1,rfl⟩⟩;refine ⟨_,rfl,?_⟩;refine hK.out _ _ ⟨⟨bI hHeld.1.out _⟩,hHeld.2⟩ (fun hHeld=>?_);clear hK K;refine nS 13 ?_;refine cJ 3 ?_;refine fW 4 ?_;refine fW 5 ?_;refine cJ 6 ?_;refine cJ 7 ?_;refine fW 8 ?_;refine fW 9 ?_;refine fW 10 ?_;refine fW 11 ?_;refine fW 12 ?_;refine cJ 13 ?_;refine cJ 14 ?_;refine fW 15 ?_;refine fW 16 ?_;refine fW 17 ?_;refine fW 18 ?_;refine fW 19 ?_;refine fW 20 ?_;refine fW 21 ?_;refine fW 22 ?_;refine cJ 23 ?_;refine cJ 24 ?_;refine fW 25 ?_;refine fW 26 ?_;refine fW 27 ?_;refine fW 28 ?_;refine fW 29 ?_;refine fW 30 ?_;refine cJ 31 ?_;refine cJ 32 ?_;refine fW 33 ?_;refine fW 34 ?_;refine fW 35 ?_;refine fW 36 ?_;refine fW 37 ?_;refine fW 38 ?_;refine fW 39 ?_;refine fW 40 ?_;refine cJ 41 ?_;refine cJ 42 ?_;refine fW 43 ?_;refine fW 44 ?_;refine fW 45 ?_;refine fW 46 ?_;refine fW 47 ?_;refine fW 48 ?_;refine fW 49 ?_;refine fW 50 ?_;refine fW 51 ?_;refine fW 52 ?_;refine fW 53 ?_;refine cJ 54 ?_;refine cJ 55 ?_;refine gT (by kernel_rfl) ?_;go_wp2;go_ret;exact ⟨by rw [←HZ.out];rfl,hHeld.1.out⟩
 |true=>
 have B0:=aK h0;clear h0
 cases h1:rM l0 a1 a2 a3 l4 1 with
 |false=>
  have B1:=aK h1;clear h1;have W1:=aK (show fJ 0 a1 40=some true by rw [fP];exact gF some (by have:=B0.out;unfold rM at this;exact this));have W2:=aK (show fJ 14 o 120=some false by rw [fP];exact gF some bMv);have HZ:=aK (show false=r by rw [←HR.out,B0.out,B1.out];rfl);clear B0 B1;go_enter Try.func66,Try.ntmps66;go_wp2;refine sT 56 (S:=fun w'=>Aside0 (Below w.heap.size w w')∧w'.cell? ⟨w.heap.size,0,none⟩=some (.slice A0 l0.length c0)∧w'.cell? ⟨w.heap.size,1,none⟩=some (.int .i64 a1)∧w'.cell? ⟨w.heap.size,2,none⟩=some (.int .i64 a2)∧w'.cell? ⟨w.heap.size,3,none⟩=some (.int .i64 a3)∧w'.cell? ⟨w.heap.size,4,none⟩=some (.slice A4 l4.length c4)) (ds:=[]) ⟨⟨bG HB.out⟩,(by go_simp),(by go_simp),(by go_simp),(by go_simp),(by go_simp)⟩ (fun hHeld=>?_);refine cJ 0 ?_;refine tS 1 12 (lA 56 3) rfl rfl (by kernel_rfl) hHeld pK ?_;refine oS 2 13 (lA 56 7) rfl rfl (fun K hK=>?_);refine gO Try.func96 #[.int .i64 0,.int .i64 a1,.int .i64 40] ?_;(with_reducible refine (dW 0 a1 40 true _ W1.out).mono ?_);rintro e w3 ⟨rfl,⟨n1,rfl⟩⟩;refine ⟨_,rfl,?_⟩;refine hK.out _ _ ⟨⟨bI hHeld.1.out _⟩,hHeld.2⟩ (fun hHeld=>?_);clear hK K;refine nS 13 ?_;refine cJ 3 ?_;refine cJ 4 ?_;refine oS 5 16 (lA 56 63) rfl rfl (fun K hK=>?_);refine gO Try.func96 #[.int .i64 14,.int .i64 o,.int .i64 120] ?_;(with_reducible refine (dW 14 o 120 false _ W2.out).mono ?_);rintro e w3 ⟨rfl,⟨n1,rfl⟩⟩;refine ⟨_,rfl,?_⟩;refine hK.out _ _ ⟨⟨bI hHeld.1.out _⟩,hHeld.2⟩ (fun hHeld=>?_);clear hK K;refine nS 16 ?_;refine cJ 6 ?_;refine cJ 7 ?_;refine fW 8 ?_;refine fW 9 ?_;refine fW 10 ?_;refine fW 11 ?_;refine fW 12 ?_;refine cJ 13 ?_;refine cJ 14 ?_;refine fW 15 ?_;refine fW 16 ?_;refine fW 17 ?_;refine fW 18 ?_;refine fW 19 ?_;refine fW 20 ?_;refine fW 21 ?_;refine fW 22 ?_;refine cJ 23 ?_;refine cJ 24 ?_;refine fW 25 ?_;refine fW 26 ?_;refine fW 27 ?_;refine fW 28 ?_;refine fW 29 ?_;refine fW 30 ?_;refine cJ 31 ?_;refine cJ 32 ?_;refine fW 33 ?_;refine fW 34 ?_;refine fW 35 ?_;refine fW 36 ?_;refine fW 37 ?_;refine fW 38 ?_;refine fW 39 ?_;refine fW 40 ?_;refine cJ 41 ?_;refine cJ 42 ?_;refine fW 43 ?_;refine fW 44 ?_;refine fW 45 ?_;refine fW 46 ?_;refine fW 47 ?_;refine fW 48 ?_;refine fW 49 ?_;refine fW 50 ?_;refine fW 51 ?_;refine fW 52 ?_;refine fW 53 ?_;refine cJ 54 ?_;refine cJ 55 ?_;refine gT (by kernel_rfl) ?_;go_wp2;go_ret;exact ⟨by rw [←HZ.out];rfl,hHeld.1.out⟩
 |true=>
 have B1:=aK h1;clear h1
 cases h2:rM l0 a1 a2 a3 l4 2 with
 |false=>
  have B2:=aK h2;clear h2;have W1:=aK (show fJ 0 a1 40=some true by rw [fP];exact gF some (by have:=B0.out;unfold rM at this;exact this));have W2:=aK (show fJ 14 o 120=some true by rw [fP];exact gF some bMv);have W3:=aK (show fJ 0 a2 a1=some false by rw [fP];exact gF some (by have:=B2.out;unfold rM at this;exact this));have HZ:=aK (show false=r by rw [←HR.out,B0.out,B1.out,B2.out];rfl);clear B0 B1 B2;go_enter Try.func66,Try.ntmps66;go_wp2;refine sT 56 (S:=fun w'=>Aside0 (Below w.heap.size w w')∧w'.cell? ⟨w.heap.size,0,none⟩=some (.slice A0 l0.length c0)∧w'.cell? ⟨w.heap.size,1,none⟩=some (.int .i64 a1)∧w'.cell? ⟨w.heap.size,2,none⟩=some (.int .i64 a2)∧w'.cell? ⟨w.heap.size,3,none⟩=some (.int .i64 a3)∧w'.cell? ⟨w.heap.size,4,none⟩=some (.slice A4 l4.length c4)) (ds:=[]) ⟨⟨bG HB.out⟩,(by go_simp),(by go_simp),(by go_simp),(by go_simp),(by go_simp)⟩ (fun hHeld=>?_);refine cJ 0 ?_;refine tS 1 12 (lA 56 3) rfl rfl (by kernel_rfl) hHeld pK ?_;refine oS 2 13 (lA 56 7) rfl rfl (fun K hK=>?_);refine gO Try.func96 #[.int .i64 0,.int .i64 a1,.int .i64 40] ?_;(with_reducible refine (dW 0 a1 40 true _ W1.out).mono ?_);rintro e w3 ⟨rfl,⟨n1,rfl⟩⟩;refine ⟨_,rfl,?_⟩;refine hK.out _ _ ⟨⟨bI hHeld.1.out _⟩,hHeld.2⟩ (fun hHeld=>?_);clear hK K;refine nS 13 ?_;refine cJ 3 ?_;refine cJ 4 ?_;refine oS 5 16 (lA 56 63) rfl rfl (fun K hK=>?_);refine gO Try.func96 #[.int .i64 14,.int .i64 o,.int .i64 120] ?_;(with_reducible refine (dW 14 o 120 true _ W2.out).mono ?_);rintro e w3 ⟨rfl,⟨n1,rfl⟩⟩;refine ⟨_,rfl,?_⟩;refine hK.out _ _ ⟨⟨bI hHeld.1.out _⟩,hHeld.2⟩ (fun hHeld=>?_);clear hK K;refine nS 16 ?_;refine cJ 6 ?_;refine cJ 7 ?_;refine cJ 8 ?_;refine cJ 10 ?_;refine tS 9 20 (lA 56 2047) rfl rfl (by kernel_rfl) hHeld pK ?_;refine tS 11 22 (lA 56 4095) rfl rfl (by kernel_rfl) hHeld pK ?_;refine oS 12 23 (lA 56 8191) rfl rfl (fun K hK=>?_);refine gO Try.func96 #[.int .i64 0,.int .i64 a2,.int .i64 a1] ?_;(with_reducible refine (dW 0 a2 a1 false _ W3.out).mono ?_);rintro e w3 ⟨rfl,⟨n1,rfl⟩⟩;refine ⟨_,rfl,?_⟩;refine hK.out _ _ ⟨⟨bI hHeld.1.out _⟩,hHeld.2⟩ (fun hHeld=>?_);clear hK K;refine nS 23 ?_;refine cJ 13 ?_;refine cJ 14 ?_;refine fW 15 ?_;refine fW 16 ?_;refine fW 17 ?_;refine fW 18 ?_;refine fW 19 ?_;refine fW 20 ?_;refine fW 21 ?_;refine fW 22 ?_;refine cJ 23 ?_;refine cJ 24 ?_;refine fW 25 ?_;refine fW 26 ?_;refine fW 27 ?_;refine fW 28 ?_;refine fW 29 ?_;refine fW 30 ?_;refine cJ 31 ?_;refine cJ 32 ?_;refine fW 33 ?_;refine fW 34 ?_;refine fW 35 ?_;refine fW 36 ?_;refine fW 37 ?_;refine fW 38 ?_;refine fW 39 ?_;refine fW 40 ?_;refine cJ 41 ?_;refine cJ 42 ?_;refine fW 43 ?_;refine fW 44 ?_;refine fW 45 ?_;refine fW 46 ?_;refine fW 47 ?_;refine fW 48 ?_;refine fW 49 ?_;refine fW 50 ?_;refine fW 51 ?_;refine fW 52 ?_;refine fW 53 ?_;refine cJ 54 ?_;refine cJ 55 ?_;refine gT (by kernel_rfl) ?_;go_wp2;go_ret;exact ⟨by rw [←HZ.out];rfl,hHeld.1.out⟩
 |true=>
 have B2:=aK h2;clear h2
 cases h3:rM l0 a1 a2 a3 l4 3 with
 |false=>
  have B3:=aK h3;clear h3;have W1:=aK (show fJ 0 a1 40=some true by rw [fP];exact gF some (by have:=B0.out;unfold rM at this;exact this));have W2:=aK (show fJ 14 o 120=some true by rw [fP];exact gF some bMv);have W3:=aK (show fJ 0 a2 a1=some true by rw [fP];exact gF some (by have:=B2.out;unfold rM at this;exact this));have W4:=aK (show fJ a1 a3 (l0.length:Int)=some false by rw [fP];exact gF some (by have:=B3.out;unfold rM at this;exact this));have HZ:=aK (show false=r by rw [←HR.out,B0.out,B1.out,B2.out,B3.out];rfl);clear B0 B1 B2 B3;go_enter Try.func66,Try.ntmps66;go_wp2;refine sT 56 (S:=fun w'=>Aside0 (Below w.heap.size w w')∧w'.cell? ⟨w.heap.size,0,none⟩=some (.slice A0 l0.length c0)∧w'.cell? ⟨w.heap.size,1,none⟩=some (.int .i64 a1)∧w'.cell? ⟨w.heap.size,2,none⟩=some (.int .i64 a2)∧w'.cell? ⟨w.heap.size,3,none⟩=some (.int .i64 a3)∧w'.cell? ⟨w.heap.size,4,none⟩=some (.slice A4 l4.length c4)) (ds:=[]) ⟨⟨bG HB.out⟩,(by go_simp),(by go_simp),(by go_simp),(by go_simp),(by go_simp)⟩ (fun hHeld=>?_);refine cJ 0 ?_;refine tS 1 12 (lA 56 3) rfl rfl (by kernel_rfl) hHeld pK ?_;refine oS 2 13 (lA 56 7) rfl rfl (fun K hK=>?_);refine gO Try.func96 #[.int .i64 0,.int .i64 a1,.int .i64 40] ?_;(with_reducible refine (dW 0 a1 40 true _ W1.out).mono ?_);rintro e w3 ⟨rfl,⟨n1,rfl⟩⟩;refine ⟨_,rfl,?_⟩;refine hK.out _ _ ⟨⟨bI hHeld.1.out _⟩,hHeld.2⟩ (fun hHeld=>?_);clear hK K;refine nS 13 ?_;refine cJ 3 ?_;refine cJ 4 ?_;refine oS 5 16 (lA 56 63) rfl rfl (fun K hK=>?_);refine gO Try.func96 #[.int .i64 14,.int .i64 o,.int .i64 120] ?_;(with_reducible refine (dW 14 o 120 true _ W2.out).mono ?_);rintro e w3 ⟨rfl,⟨n1,rfl⟩⟩;refine ⟨_,rfl,?_⟩;refine hK.out _ _ ⟨⟨bI hHeld.1.out _⟩,hHeld.2⟩ (fun hHeld=>?_);clear hK K;refine nS 16 ?_;refine cJ 6 ?_;refine cJ 7 ?_;refine cJ 8 ?_;refine cJ 10 ?_;refine tS 9 20 (lA 56 2047) rfl rfl (by kernel_rfl) hHeld pK ?_;refine tS 11 22 (lA 56 4095) rfl rfl (by kernel_rfl) hHeld pK ?_;refine oS 12 23 (lA 56 8191) rfl rfl (fun K hK=>?_);refine gO Try.func96 #[.int .i64 0,.int .i64 a2,.int .i64 a1] ?_;(with_reducible refine (dW 0 a2 a1 true _ W3.out).mono ?_);rintro e w3 ⟨rfl,⟨n1,rfl⟩⟩;refine ⟨_,rfl,?_⟩;refine hK.out _ _ ⟨⟨bI hHeld.1.out _⟩,hHeld.2⟩ (fun hHeld=>?_);clear hK K;refine nS 23 ?_;refine cJ 13 ?_;refine cJ 14 ?_;refine cJ 15 ?_;refine cJ 17 ?_;refine cJ 19 ?_;refine tS 16 27 (lA 56 786431) rfl rfl (by kernel_rfl) hHeld pK ?_;refine tS 18 29 (lA 56 1048575) rfl rfl (by kernel_rfl) hHeld pK ?_;refine tS 20 31 (lA 56 2097151) rfl rfl (by kernel_rfl) hHeld pK ?_;refine cJ 21 ?_;refine oS 22 33 (lA 56 8388607) rfl rfl (fun K hK=>?_);refine gO Try.func96 #[.int .i64 a1,.int .i64 a3,.int .i64 (l0.length:Int)] ?_;(with_reducible refine (dW a1 a3 (l0.length:Int) false _ W4.out).mono ?_);rintro e w3 ⟨rfl,⟨n1,rfl⟩⟩;refine ⟨_,rfl,?_⟩;refine hK.out _ _ ⟨⟨bI hHeld.1.out _⟩,hHeld.2⟩ (fun hHeld=>?_);clear hK K;refine nS 33 ?_;refine cJ 23 ?_;refine cJ 24 ?_;refine fW 25 ?_;refine fW 26 ?_;refine fW 27 ?_;refine fW 28 ?_;refine fW 29 ?_;refine fW 30 ?_;refine cJ 31 ?_;refine cJ 32 ?_;refine fW 33 ?_;refine fW 34 ?_;refine fW 35 ?_;refine fW 36 ?_;refine fW 37 ?_;refine fW 38 ?_;refine fW 39 ?_;refine fW 40 ?_;refine cJ 41 ?_;refine cJ 42 ?_;refine fW 43 ?_;refine fW 44 ?_;refine fW 45 ?_;refine fW 46 ?_;refine fW 47 ?_;refine fW 48 ?_;refine fW 49 ?_;refine fW 50 ?_;refine fW 51 ?_;refine fW 52 ?_;refine fW 53 ?_;refine cJ 54 ?_;refine cJ 55 ?_;refine gT (by kernel_rfl) ?_;go_wp2;go_ret;exact ⟨by rw [←HZ.out];rfl,hHeld.1.out⟩
 |true=>
 have B3:=aK h3;clear h3
 cases h4:rM l0 a1 a2 a3 l4 4 with
 |false=>
  have B4:=aK h4;clear h4;have W1:=aK (show fJ 0 a1 40=some true by rw [fP];exact gF some (by have:=B0.out;unfold rM at this;exact this));have W2:=aK (show fJ 14 o 120=some true by rw [fP];exact gF some bMv);have W3:=aK (show fJ 0 a2 a1=some true by rw [fP];exact gF some (by have:=B2.out;unfold rM at this;exact this));have W4:=aK (show fJ a1 a3 (l0.length:Int)=some true by rw [fP];exact gF some (by have:=B3.out;unfold rM at this;exact this));obtain ⟨cn,hcn⟩: ∃cn,cn=xN o:=⟨_,rfl⟩;have W5:=aK (show sI o=some cn by rw [hcn];rfl);have e5:((l4.length:Int)==cn)=false:=by have:=B4.out;unfold rM at this;rw [hcn,HO.out];exact this
  clear hcn;have HZ:=aK (show false=r by rw [←HR.out,B0.out,B1.out,B2.out,B3.out,B4.out];rfl);clear B0 B1 B2 B3 B4;go_enter Try.func66,Try.ntmps66;go_wp2;refine sT 56 (S:=fun w'=>Aside0 (Below w.heap.size w w')∧w'.cell? ⟨w.heap.size,0,none⟩=some (.slice A0 l0.length c0)∧w'.cell? ⟨w.heap.size,1,none⟩=some (.int .i64 a1)∧w'.cell? ⟨w.heap.size,2,none⟩=some (.int .i64 a2)∧w'.cell? ⟨w.heap.size,3,none⟩=some (.int .i64 a3)∧w'.cell? ⟨w.heap.size,4,none⟩=some (.slice A4 l4.length c4)) (ds:=[]) ⟨⟨bG HB.out⟩,(by go_simp),(by go_simp),(by go_simp),(by go_simp),(by go_simp)⟩ (fun hHeld=>?_);refine cJ 0 ?_;refine tS 1 12 (lA 56 3) rfl rfl (by kernel_rfl) hHeld pK ?_;refine oS 2 13 (lA 56 7) rfl rfl (fun K hK=>?_);refine gO Try.func96 #[.int .i64 0,.int .i64 a1,.int .i64 40] ?_;(with_reducible refine (dW 0 a1 40 true _ W1.out).mono ?_);rintro e w3 ⟨rfl,⟨n1,rfl⟩⟩;refine ⟨_,rfl,?_⟩;refine hK.out _ _ ⟨⟨bI hHeld.1.out _⟩,hHeld.2⟩ (fun hHeld=>?_);clear hK K;refine nS 13 ?_;refine cJ 3 ?_;refine cJ 4 ?_;refine oS 5 16 (lA 56 63) rfl rfl (fun K hK=>?_);refine gO Try.func96 #[.int .i64 14,.int .i64 o,.int .i64 120] ?_;(with_reducible refine (dW 14 o 120 true _ W2.out).mono ?_);rintro e w3 ⟨rfl,⟨n1,rfl⟩⟩;refine ⟨_,rfl,?_⟩;refine hK.out _ _ ⟨⟨bI hHeld.1.out _⟩,hHeld.2⟩ (fun hHeld=>?_);clear hK K;refine nS 16 ?_;refine cJ 6 ?_;refine cJ 7 ?_;refine cJ 8 ?_;refine cJ 10 ?_;refine tS 9 20 (lA 56 2047) rfl rfl (by kernel_rfl) hHeld pK ?_;refine tS 11 22 (lA 56 4095) rfl rfl (by kernel_rfl) hHeld pK ?_;refine oS 12 23 (lA 56 8191) rfl rfl (fun K hK=>?_);refine gO Try.func96 #[.int .i64 0,.int .i64 a2,.int .i64 a1] ?_;(with_reducible refine (dW 0 a2 a1 true _ W3.out).mono ?_);rintro e w3 ⟨rfl,⟨n1,rfl⟩⟩;refine ⟨_,rfl,?_⟩;refine hK.out _ _ ⟨⟨bI hHeld.1.out _⟩,hHeld.2⟩ (fun hHeld=>?_);clear hK K;refine nS 23 ?_;refine cJ 13 ?_;refine cJ 14 ?_;refine cJ 15 ?_;refine cJ 17 ?_;refine cJ 19 ?_;refine tS 16 27 (lA 56 786431) rfl rfl (by kernel_rfl) hHeld pK ?_;refine tS 18 29 (lA 56 1048575) rfl rfl (by kernel_rfl) hHeld pK ?_;refine tS 20 31 (lA 56 2097151) rfl rfl (by kernel_rfl) hHeld pK ?_;refine cJ 21 ?_;refine oS 22 33 (lA 56 8388607) rfl rfl (fun K hK=>?_);refine gO Try.func96 #[.int .i64 a1,.int .i64 a3,.int .i64 (l0.length:Int)] ?_;(with_reducible refine (dW a1 a3 (l0.length:Int) true _ W4.out).mono ?_);rintro e w3 ⟨rfl,⟨n1,rfl⟩⟩;refine ⟨_,rfl,?_⟩;refine hK.out _ _ ⟨⟨bI hHeld.1.out _⟩,hHeld.2⟩ (fun hHeld=>?_);clear hK K;refine nS 33 ?_;refine cJ 23 ?_;refine cJ 24 ?_;refine cJ 25 ?_;refine cJ 28 ?_;refine tS 26 37 (lA 56 402653183) rfl rfl (by kernel_rfl) hHeld pK ?_;refine cJ 27 ?_;refine oS 29 40 (lA 56 1073741823) rfl rfl (fun K hK=>?_);refine gO Try.func97 #[.int .i64 o] ?_;(with_reducible refine (rO o cn _ W5.out).mono ?_);rintro e w3 ⟨rfl,⟨n1,rfl⟩⟩;refine ⟨_,rfl,?_⟩;refine hK.out _ _ ⟨⟨bI hHeld.1.out _⟩,hHeld.2⟩ (fun hHeld=>?_);clear hK K;refine nS 40 ?_;refine cJ 30 ?_;refine cJ 31 ?_;refine cJ 32 ?_;refine fW 33 ?_;refine fW 34 ?_;refine fW 35 ?_;refine fW 36 ?_;refine fW 37 ?_;refine fW 38 ?_;refine fW 39 ?_;refine fW 40 ?_;refine cJ 41 ?_;refine cJ 42 ?_;refine fW 43 ?_;refine fW 44 ?_;refine fW 45 ?_;refine fW 46 ?_;refine fW 47 ?_;refine fW 48 ?_;refine fW 49 ?_;refine fW 50 ?_;refine fW 51 ?_;refine fW 52 ?_;refine fW 53 ?_;refine cJ 54 ?_;refine cJ 55 ?_;refine gT (by kernel_rfl) ?_;go_wp2;go_ret;exact ⟨by rw [←HZ.out];rfl,hHeld.1.out⟩
 |true=>
 have B4:=aK h4;clear h4
 cases h5:rM l0 a1 a2 a3 l4 5 with
 | false =>
  have B5:=aK h5;clear h5;have W1:=aK (show fJ 0 a1 40=some true by rw [fP];exact gF some (by have:=B0.out;unfold rM at this;exact this));have W2:=aK (show fJ 14 o 120=some true by rw [fP];exact gF some bMv);have W3:=aK (show fJ 0 a2 a1=some true by rw [fP];exact gF some (by have:=B2.out;unfold rM at this;exact this));have W4:=aK (show fJ a1 a3 (l0.length:Int)=some true by rw [fP];exact gF some (by have:=B3.out;unfold rM at this;exact this));obtain ⟨cn,hcn⟩: ∃cn,cn=xN o:=⟨_,rfl⟩;have W5:=aK (show sI o=some cn by rw [hcn];rfl);have e5:((l4.length:Int)==cn)=true:=by have:=B4.out;unfold rM at this;rw [hcn,HO.out];exact this
  clear hcn;have b0:=B0.out;have b1:=B1.out;have b2:=B2.out;have b3:=B3.out;unfold rM at b0 b1 b2 b3;have b0:=bB b0;have b1:=bB b1;have b2:=bB b2;have b3:=bB b3;rw [←HO.out] at b1;obtain ⟨y,hy⟩: ∃y:Nat,a1=(y:Int):=⟨a1.toNat,by omega⟩;have hyl:y≤l0.length:=by omega
  have hz2:a2.toNat≤y:=by omega
  have hy0:a1.toNat=y:=by omega
  obtain ⟨ad,had⟩: ∃ad,A0=some ad:=by
   have h0:=HO.out;have hL:=HL.out;obtain ⟨ad,e,_⟩:=dL HR0.out 0 (by omega) (by unfold wrap64 at h0;omega);exact ⟨ad,e⟩
  subst had;have P1:=aK hy;have P2:=aK hyl;have P3:=aK HC0.out
  obtain ⟨ad2,h2⟩: ∃ad2,(if c0=y then some ad else some (ad.add y))=some ad2:=by
   by_cases h:c0=y
   ·exact ⟨ad,if_pos h⟩
   ·exact ⟨ad.add y,if_neg h⟩
  obtain ⟨z,hz⟩: ∃z,l0.length - y=z:=⟨_,rfl⟩;obtain ⟨zc,hzc⟩: ∃zc,c0 - y=zc:=⟨_,rfl⟩;have P4:=aK h2;have P5:=aK hz;have P6:=aK hzc;obtain ⟨i3,hi3,_,hsz3,_⟩:=info_parts qT;have IX0: ∀W:World,(Instr.index 119 (.agg #[.slice (some ad) y c0,.slice (some ad2) z zc]) (.int .i64 0)).run Try.prog W= .ok (.slice (some ad) y c0) W:=fun W=>by kernel_rfl
  have IX1: ∀W:World,(Instr.index 119 (.agg #[.slice (some ad) y c0,.slice (some ad2) z zc]) (.int .i64 1)).run Try.prog W= .ok (.slice (some ad2) z zc) W:=fun W=>by kernel_rfl
  obtain ⟨E1,hE1⟩: ∃E1:Option Addr,E1=if c0=a2.toNat then some ad else (some ad).map (·.add (a2.toNat*1)):=⟨_,rfl⟩
  obtain ⟨L1,hL1⟩: ∃L1,L1=(l0.take y).drop a2.toNat:=⟨_,rfl⟩;have n1:L1.length=y - a2.toNat:=by rw [hL1,dJ,dB,kL hyl]
  have SL1:=bCd (P:=Try.prog) 23 3 .i64 Try.underlying23 hi3 1 hsz3 (some ad) y c0 a2 (by omega) (by omega);rw [←hE1,←n1] at SL1
  have HE1:=aK (show Kd.C (Kd.int .i64) w E1 L1.length L1 by
   have hT:=Kd.C_take HR0.out hyl;have hD:=Kd.C_drop (c:=c0) hT (m:=a2.toNat) (by rw [dB];omega) (by rw [dB];have:=HC0.out;omega);rw [←hL1] at hD;rw [hE1]
   exact hD)
  have HEl1:=aK (show L1.length≤281474976710656 by have:=HL.out;rw [n1];omega);have HV1:=aK (show L1.all (· ==0)=false by have:=B5.out;unfold rM at this;rw [hy0,←hL1] at this;exact this);have HZ:=aK (show false=r by rw [←HR.out,B0.out,B1.out,B2.out,B3.out,B4.out,B5.out];rfl);clear hy hy0 hyl hz2 b0 b1 b2 b3 hL1 hE1 n1 h2 hz hzc hi3 hsz3;go_enter Try.func66,Try.ntmps66;go_wp2;refine sT 56 (S:=fun w'=>Aside0 (Below w.heap.size w w')∧w'.cell? ⟨w.heap.size,0,none⟩=some (.slice (some ad) l0.length c0)∧w'.cell? ⟨w.heap.size,1,none⟩=some (.int .i64 a1)∧w'.cell? ⟨w.heap.size,2,none⟩=some (.int .i64 a2)∧w'.cell? ⟨w.heap.size,3,none⟩=some (.int .i64 a3)∧w'.cell? ⟨w.heap.size,4,none⟩=some (.slice A4 l4.length c4)) (ds:=[]) ⟨⟨bG HB.out⟩,(by go_simp),(by go_simp),(by go_simp),(by go_simp),(by go_simp)⟩ (fun hHeld=>?_);refine cJ 0 ?_;refine tS 1 12 (lA 56 3) rfl rfl (by kernel_rfl) hHeld pK ?_;refine oS 2 13 (lA 56 7) rfl rfl (fun K hK=>?_);refine gO Try.func96 #[.int .i64 0,.int .i64 a1,.int .i64 40] ?_;(with_reducible refine (dW 0 a1 40 true _ W1.out).mono ?_);rintro e w3 ⟨rfl,⟨n1,rfl⟩⟩;refine ⟨_,rfl,?_⟩;refine hK.out _ _ ⟨⟨bI hHeld.1.out _⟩,hHeld.2⟩ (fun hHeld=>?_);clear hK K;refine nS 13 ?_;refine cJ 3 ?_;refine cJ 4 ?_;refine oS 5 16 (lA 56 63) rfl rfl (fun K hK=>?_);refine gO Try.func96 #[.int .i64 14,.int .i64 o,.int .i64 120] ?_;(with_reducible refine (dW 14 o 120 true _ W2.out).mono ?_);rintro e w3 ⟨rfl,⟨n1,rfl⟩⟩;refine ⟨_,rfl,?_⟩;refine hK.out _ _ ⟨⟨bI hHeld.1.out _⟩,hHeld.2⟩ (fun hHeld=>?_);clear hK K;refine nS 16 ?_;refine cJ 6 ?_;refine cJ 7 ?_;refine cJ 8 ?_;refine cJ 10 ?_;refine tS 9 20 (lA 56 2047) rfl rfl (by kernel_rfl) hHeld pK ?_;refine tS 11 22 (lA 56 4095) rfl rfl (by kernel_rfl) hHeld pK ?_;refine oS 12 23 (lA 56 8191) rfl rfl (fun K hK=>?_);refine gO Try.func96 #[.int .i64 0,.int .i64 a2,.int .i64 a1] ?_;(with_reducible refine (dW 0 a2 a1 true _ W3.out).mono ?_);rintro e w3 ⟨rfl,⟨n1,rfl⟩⟩;refine ⟨_,rfl,?_⟩;refine hK.out _ _ ⟨⟨bI hHeld.1.out _⟩,hHeld.2⟩ (fun hHeld=>?_);clear hK K;refine nS 23 ?_;refine cJ 13 ?_;refine cJ 14 ?_;refine cJ 15 ?_;refine cJ 17 ?_;refine cJ 19 ?_;refine tS 16 27 (lA 56 786431) rfl rfl (by kernel_rfl) hHeld pK ?_;refine tS 18 29 (lA 56 1048575) rfl rfl (by kernel_rfl) hHeld pK ?_;refine tS 20 31 (lA 56 2097151) rfl rfl (by kernel_rfl) hHeld pK ?_;refine cJ 21 ?_;refine oS 22 33 (lA 56 8388607) rfl rfl (fun K hK=>?_);refine gO Try.func96 #[.int .i64 a1,.int .i64 a3,.int .i64 (l0.length:Int)] ?_;(with_reducible refine (dW a1 a3 (l0.length:Int) true _ W4.out).mono ?_);rintro e w3 ⟨rfl,⟨n1,rfl⟩⟩;refine ⟨_,rfl,?_⟩;refine hK.out _ _ ⟨⟨bI hHeld.1.out _⟩,hHeld.2⟩ (fun hHeld=>?_);clear hK K;refine nS 33 ?_;refine cJ 23 ?_;refine cJ 24 ?_;refine cJ 25 ?_;refine cJ 28 ?_;refine tS 26 37 (lA 56 402653183) rfl rfl (by kernel_rfl) hHeld pK ?_;refine cJ 27 ?_;refine oS 29 40 (lA 56 1073741823) rfl rfl (fun K hK=>?_);refine gO Try.func97 #[.int .i64 o] ?_;(with_reducible refine (rO o cn _ W5.out).mono ?_);rintro e w3 ⟨rfl,⟨n1,rfl⟩⟩;refine ⟨_,rfl,?_⟩;refine hK.out _ _ ⟨⟨bI hHeld.1.out _⟩,hHeld.2⟩ (fun hHeld=>?_);clear hK K;refine nS 40 ?_;refine cJ 30 ?_;refine cJ 31 ?_;refine cJ 32 ?_;refine cJ 36 ?_;refine cJ 39 ?_;refine tS 33 44 (lA 56 635655159807) rfl rfl (by kernel_rfl) hHeld pK ?_;refine tS 37 48 (lA 56 773094113279) rfl rfl (by kernel_rfl) hHeld pK ?_;refine oS 34 45 (lA 56 790273982463) rfl rfl (fun K hK=>?_);refine gO Try.func98 #[.agg #[.slice (some ad) l0.length c0,.int .i64 a1,.int .i64 a2,.int .i64 a3,.slice A4 l4.length c4]] ?_;(with_reducible refine (Mem_parts.calls2 ad ad2 l0.length c0 y z zc a1 a2 a3 (.slice A4 l4.length c4) rfl _ P1.out P2.out P3.out P4.out P5.out P6.out).mono ?_);rintro e w3 ⟨rfl,hb3⟩;refine ⟨_,rfl,?_⟩;refine hK.out _ _ ⟨⟨bK hHeld.1.out hb3⟩,(bDe hb3 hHeld.2)⟩ (fun hHeld=>?_);clear hK K;refine nS 45 ?_
  refine tS 35 46 (lA 56 824633720831) rfl rfl (by kernel_rfl) hHeld pK ?_;refine cJ 38 ?_;refine oS 40 51 (lA 56 2199023255551) rfl rfl (fun K hK=>?_);refine gO Try.func76 #[.slice E1 L1.length (c0 - a2.toNat),.func (.func 95) #[] #[]] ?_;(with_reducible refine (rE E1 (c0 - a2.toNat) L1 _ (cG HE1.out hHeld.1.out) HEl1.out).mono ?_);rintro e w3 ⟨rfl,hb3⟩;rw [HV1.out];refine ⟨_,rfl,?_⟩;refine hK.out _ _ ⟨⟨bK hHeld.1.out hb3⟩,(bDe hb3 hHeld.2)⟩ (fun hHeld=>?_);clear hK K;refine nS 51 ?_;refine cJ 41 ?_;refine cJ 42 ?_;refine fW 43 ?_;refine fW 44 ?_;refine fW 45 ?_;refine fW 46 ?_;refine fW 47 ?_;refine fW 48 ?_;refine fW 49 ?_;refine fW 50 ?_;refine fW 51 ?_;refine fW 52 ?_;refine fW 53 ?_;refine cJ 54 ?_;refine cJ 55 ?_;refine gT (by kernel_rfl) ?_;go_wp2;go_ret;exact ⟨by rw [←HZ.out];rfl,hHeld.1.out⟩
 |true=>
 have B5:=aK h5;clear h5
 cases h6:rM l0 a1 a2 a3 l4 6 with
 | false =>
  have B6:=aK h6;clear h6;have W1:=aK (show fJ 0 a1 40=some true by rw [fP];exact gF some (by have:=B0.out;unfold rM at this;exact this));have W2:=aK (show fJ 14 o 120=some true by rw [fP];exact gF some bMv);have W3:=aK (show fJ 0 a2 a1=some true by rw [fP];exact gF some (by have:=B2.out;unfold rM at this;exact this));have W4:=aK (show fJ a1 a3 (l0.length:Int)=some true by rw [fP];exact gF some (by have:=B3.out;unfold rM at this;exact this));obtain ⟨cn,hcn⟩: ∃cn,cn=xN o:=⟨_,rfl⟩;have W5:=aK (show sI o=some cn by rw [hcn];rfl);have e5:((l4.length:Int)==cn)=true:=by have:=B4.out;unfold rM at this;rw [hcn,HO.out];exact this
  clear hcn;have b0:=B0.out;have b1:=B1.out;have b2:=B2.out;have b3:=B3.out;unfold rM at b0 b1 b2 b3;have b0:=bB b0;have b1:=bB b1;have b2:=bB b2;have b3:=bB b3;rw [←HO.out] at b1;obtain ⟨y,hy⟩: ∃y:Nat,a1=(y:Int):=⟨a1.toNat,by omega⟩;have hyl:y≤l0.length:=by omega
  have hz2:a2.toNat≤y:=by omega
  have hy0:a1.toNat=y:=by omega
  obtain ⟨ad,had⟩: ∃ad,A0=some ad:=by
   have h0:=HO.out;have hL:=HL.out;obtain ⟨ad,e,_⟩:=dL HR0.out 0 (by omega) (by unfold wrap64 at h0;omega);exact ⟨ad,e⟩
  subst had;have P1:=aK hy;have P2:=aK hyl;have P3:=aK HC0.out
  obtain ⟨ad2,h2⟩: ∃ad2,(if c0=y then some ad else some (ad.add y))=some ad2:=by
   by_cases h:c0=y
   ·exact ⟨ad,if_pos h⟩
   ·exact ⟨ad.add y,if_neg h⟩
  obtain ⟨z,hz⟩: ∃z,l0.length - y=z:=⟨_,rfl⟩;obtain ⟨zc,hzc⟩: ∃zc,c0 - y=zc:=⟨_,rfl⟩;have P4:=aK h2;have P5:=aK hz;have P6:=aK hzc;obtain ⟨i3,hi3,_,hsz3,_⟩:=info_parts qT;have IX0: ∀W:World,(Instr.index 119 (.agg #[.slice (some ad) y c0,.slice (some ad2) z zc]) (.int .i64 0)).run Try.prog W= .ok (.slice (some ad) y c0) W:=fun W=>by kernel_rfl
  have IX1: ∀W:World,(Instr.index 119 (.agg #[.slice (some ad) y c0,.slice (some ad2) z zc]) (.int .i64 1)).run Try.prog W= .ok (.slice (some ad2) z zc) W:=fun W=>by kernel_rfl
  obtain ⟨E1,hE1⟩: ∃E1:Option Addr,E1=if c0=a2.toNat then some ad else (some ad).map (·.add (a2.toNat*1)):=⟨_,rfl⟩
  obtain ⟨L1,hL1⟩: ∃L1,L1=(l0.take y).drop a2.toNat:=⟨_,rfl⟩;have n1:L1.length=y - a2.toNat:=by rw [hL1,dJ,dB,kL hyl]
  have SL1:=bCd (P:=Try.prog) 23 3 .i64 Try.underlying23 hi3 1 hsz3 (some ad) y c0 a2 (by omega) (by omega);rw [←hE1,←n1] at SL1
  have HE1:=aK (show Kd.C (Kd.int .i64) w E1 L1.length L1 by
   have hT:=Kd.C_take HR0.out hyl;have hD:=Kd.C_drop (c:=c0) hT (m:=a2.toNat) (by rw [dB];omega) (by rw [dB];have:=HC0.out;omega);rw [←hL1] at hD;rw [hE1]
   exact hD)
  have HEl1:=aK (show L1.length≤281474976710656 by have:=HL.out;rw [n1];omega);have HV1:=aK (show L1.all (· ==0)=true by have:=B5.out;unfold rM at this;rw [hy0,←hL1] at this;exact this);obtain ⟨d,hd⟩: ∃d,d=a3 - a1:=⟨_,rfl⟩;have q2:IntKind.i64.wrap (a3 - a1)=d:=by rw [hd];exact dD _ ⟨by have:=HL.out;omega,by have:=HL.out;omega⟩
  obtain ⟨E2,hE2⟩: ∃E2:Option Addr,E2=if zc=d.toNat then some ad2 else (some ad2).map (·.add (d.toNat*1)):=⟨_,rfl⟩
  obtain ⟨L2,hL2⟩: ∃L2,L2=(l0.drop y).drop d.toNat:=⟨_,rfl⟩;have n2:L2.length=z - d.toNat:=by rw [hL2,dJ,dJ,hz]
  have SL2:=bCd (P:=Try.prog) 23 3 .i64 Try.underlying23 hi3 1 hsz3 (some ad2) z zc d (by omega) (by omega);rw [←hE2,←n2] at SL2
  have HE2:=aK (show Kd.C (Kd.int .i64) w E2 L2.length L2 by
   have hT:=Kd.C_drop (c:=c0) HR0.out hyl HC0.out;have e2:(if c0=y then some ad else (some ad).map (·.add (y*(Kd.int .i64).sz)))=some ad2:=by rw [←h2];show (if c0=y then some ad else some (ad.add (y*1)))=_;rw [pI]
   rw [e2] at hT;have hD:=Kd.C_drop (c:=zc) hT (m:=d.toNat) (by rw [dJ];omega) (by rw [dJ];have:=HC0.out;omega);rw [←hL2] at hD;rw [hE2]
   exact hD)
  have HEl2:=aK (show L2.length≤281474976710656 by have:=HL.out;rw [n2];omega);have HV2:=aK (show L2.all (· ==0)=false by have:=B6.out;unfold rM at this;rw [hy0,←hd,←hL2] at this;exact this);have HZ:=aK (show false=r by rw [←HR.out,B0.out,B1.out,B2.out,B3.out,B4.out,B5.out,B6.out];rfl);clear hy hy0 hyl hz2 b0 b1 b2 b3 hL1 hE1 n1 h2 hz hzc hi3 hsz3 hd hL2 hE2 n2;go_enter Try.func66,Try.ntmps66;go_wp2;refine sT 56 (S:=fun w'=>Aside0 (Below w.heap.size w w')∧w'.cell? ⟨w.heap.size,0,none⟩=some (.slice (some ad) l0.length c0)∧w'.cell? ⟨w.heap.size,1,none⟩=some (.int .i64 a1)∧w'.cell? ⟨w.heap.size,2,none⟩=some (.int .i64 a2)∧w'.cell? ⟨w.heap.size,3,none⟩=some (.int .i64 a3)∧w'.cell? ⟨w.heap.size,4,none⟩=some (.slice A4 l4.length c4)) (ds:=[]) ⟨⟨bG HB.out⟩,(by go_simp),(by go_simp),(by go_simp),(by go_simp),(by go_simp)⟩ (fun hHeld=>?_);refine cJ 0 ?_;refine tS 1 12 (lA 56 3) rfl rfl (by kernel_rfl) hHeld pK ?_;refine oS 2 13 (lA 56 7) rfl rfl (fun K hK=>?_);refine gO Try.func96 #[.int .i64 0,.int .i64 a1,.int .i64 40] ?_;(with_reducible refine (dW 0 a1 40 true _ W1.out).mono ?_);rintro e w3 ⟨rfl,⟨n1,rfl⟩⟩;refine ⟨_,rfl,?_⟩;refine hK.out _ _ ⟨⟨bI hHeld.1.out _⟩,hHeld.2⟩ (fun hHeld=>?_);clear hK K;refine nS 13 ?_;refine cJ 3 ?_;refine cJ 4 ?_;refine oS 5 16 (lA 56 63) rfl rfl (fun K hK=>?_);refine gO Try.func96 #[.int .i64 14,.int .i64 o,.int .i64 120] ?_;(with_reducible refine (dW 14 o 120 true _ W2.out).mono ?_);rintro e w3 ⟨rfl,⟨n1,rfl⟩⟩;refine ⟨_,rfl,?_⟩;refine hK.out _ _ ⟨⟨bI hHeld.1.out _⟩,hHeld.2⟩ (fun hHeld=>?_);clear hK K;refine nS 16 ?_;refine cJ 6 ?_;refine cJ 7 ?_;refine cJ 8 ?_;refine cJ 10 ?_;refine tS 9 20 (lA 56 2047) rfl rfl (by kernel_rfl) hHeld pK ?_;refine tS 11 22 (lA 56 4095) rfl rfl (by kernel_rfl) hHeld pK ?_;refine oS 12 23 (lA 56 8191) rfl rfl (fun K hK=>?_);refine gO Try.func96 #[.int .i64 0,.int .i64 a2,.int .i64 a1] ?_;(with_reducible refine (dW 0 a2 a1 true _ W3.out).mono ?_);rintro e w3 ⟨rfl,⟨n1,rfl⟩⟩;refine ⟨_,rfl,?_⟩;refine hK.out _ _ ⟨⟨bI hHeld.1.out _⟩,hHeld.2⟩ (fun hHeld=>?_);clear hK K;refine nS 23 ?_;refine cJ 13 ?_;refine cJ 14 ?_;refine cJ 15 ?_;refine cJ 17 ?_;refine cJ 19 ?_;refine tS 16 27 (lA 56 786431) rfl rfl (by kernel_rfl) hHeld pK ?_;refine tS 18 29 (lA 56 1048575) rfl rfl (by kernel_rfl) hHeld pK ?_;refine tS 20 31 (lA 56 2097151) rfl rfl (by kernel_rfl) hHeld pK ?_;refine cJ 21 ?_;refine oS 22 33 (lA 56 8388607) rfl rfl (fun K hK=>?_);refine gO Try.func96 #[.int .i64 a1,.int .i64 a3,.int .i64 (l0.length:Int)] ?_;(with_reducible refine (dW a1 a3 (l0.length:Int) true _ W4.out).mono ?_);rintro e w3 ⟨rfl,⟨n1,rfl⟩⟩;refine ⟨_,rfl,?_⟩;refine hK.out _ _ ⟨⟨bI hHeld.1.out _⟩,hHeld.2⟩ (fun hHeld=>?_);clear hK K;refine nS 33 ?_;refine cJ 23 ?_;refine cJ 24 ?_;refine cJ 25 ?_;refine cJ 28 ?_;refine tS 26 37 (lA 56 402653183) rfl rfl (by kernel_rfl) hHeld pK ?_;refine cJ 27 ?_;refine oS 29 40 (lA 56 1073741823) rfl rfl (fun K hK=>?_);refine gO Try.func97 #[.int .i64 o] ?_;(with_reducible refine (rO o cn _ W5.out).mono ?_);rintro e w3 ⟨rfl,⟨n1,rfl⟩⟩;refine ⟨_,rfl,?_⟩;refine hK.out _ _ ⟨⟨bI hHeld.1.out _⟩,hHeld.2⟩ (fun hHeld=>?_);clear hK K;refine nS 40 ?_;refine cJ 30 ?_;refine cJ 31 ?_;refine cJ 32 ?_;refine cJ 36 ?_;refine cJ 39 ?_;refine tS 33 44 (lA 56 635655159807) rfl rfl (by kernel_rfl) hHeld pK ?_;refine tS 37 48 (lA 56 773094113279) rfl rfl (by kernel_rfl) hHeld pK ?_;refine oS 34 45 (lA 56 790273982463) rfl rfl (fun K hK=>?_);refine gO Try.func98 #[.agg #[.slice (some ad) l0.length c0,.int .i64 a1,.int .i64 a2,.int .i64 a3,.slice A4 l4.length c4]] ?_;(with_reducible refine (Mem_parts.calls2 ad ad2 l0.length c0 y z zc a1 a2 a3 (.slice A4 l4.length c4) rfl _ P1.out P2.out P3.out P4.out P5.out P6.out).mono ?_);rintro e w3 ⟨rfl,hb3⟩;refine ⟨_,rfl,?_⟩;refine hK.out _ _ ⟨⟨bK hHeld.1.out hb3⟩,(bDe hb3 hHeld.2)⟩ (fun hHeld=>?_);clear hK K
  refine nS 45 ?_;refine tS 35 46 (lA 56 824633720831) rfl rfl (by kernel_rfl) hHeld pK ?_;refine cJ 38 ?_;refine oS 40 51 (lA 56 2199023255551) rfl rfl (fun K hK=>?_);refine gO Try.func76 #[.slice E1 L1.length (c0 - a2.toNat),.func (.func 95) #[] #[]] ?_;(with_reducible refine (rE E1 (c0 - a2.toNat) L1 _ (cG HE1.out hHeld.1.out) HEl1.out).mono ?_);rintro e w3 ⟨rfl,hb3⟩;rw [HV1.out];refine ⟨_,rfl,?_⟩;refine hK.out _ _ ⟨⟨bK hHeld.1.out hb3⟩,(bDe hb3 hHeld.2)⟩ (fun hHeld=>?_);clear hK K;refine nS 51 ?_;refine cJ 41 ?_;refine cJ 42 ?_;refine cJ 46 ?_;refine cJ 48 ?_;refine cJ 52 ?_;refine tS 43 54 (lA 56 4873035534303231) rfl rfl (by kernel_rfl) hHeld pK ?_;refine tS 47 58 (lA 56 5013773022658559) rfl rfl (by kernel_rfl) hHeld pK ?_;refine tS 49 60 (lA 56 5576722976079871) rfl rfl (by kernel_rfl) hHeld pK ?_;refine cJ 50 ?_;refine oS 44 55 (lA 56 6720215068966911) rfl rfl (fun K hK=>?_);refine gO Try.func98 #[.agg #[.slice (some ad) l0.length c0,.int .i64 a1,.int .i64 a2,.int .i64 a3,.slice A4 l4.length c4]] ?_;(with_reducible refine (Mem_parts.calls2 ad ad2 l0.length c0 y z zc a1 a2 a3 (.slice A4 l4.length c4) rfl _ P1.out P2.out P3.out P4.out P5.out P6.out).mono ?_);rintro e w3 ⟨rfl,hb3⟩;refine ⟨_,rfl,?_⟩;refine hK.out _ _ ⟨⟨bK hHeld.1.out hb3⟩,(bDe hb3 hHeld.2)⟩ (fun hHeld=>?_);clear hK K;refine nS 55 ?_;refine tS 45 56 (lA 56 6755399441055743) rfl rfl (by kernel_rfl) hHeld pK ?_;refine cJ 51 ?_;refine oS 53 64 (lA 56 18014398509481983) rfl rfl (fun K hK=>?_);refine gO Try.func76 #[.slice E2 L2.length (zc - d.toNat),.func (.func 95) #[] #[]] ?_;(with_reducible refine (rE E2 (zc - d.toNat) L2 _ (cG HE2.out hHeld.1.out) HEl2.out).mono ?_);rintro e w3 ⟨rfl,hb3⟩;rw [HV2.out];refine ⟨_,rfl,?_⟩;refine hK.out _ _ ⟨⟨bK hHeld.1.out hb3⟩,(bDe hb3 hHeld.2)⟩ (fun hHeld=>?_);clear hK K;refine nS 64 ?_;refine cJ 54 ?_;refine cJ 55 ?_;refine gT (by kernel_rfl) ?_;go_wp2;go_ret;exact ⟨by rw [←HZ.out];rfl,hHeld.1.out⟩
 |true=>
 have B6:=aK h6;clear h6;have W1:=aK (show fJ 0 a1 40=some true by rw [fP];exact gF some (by have:=B0.out;unfold rM at this;exact this));have W2:=aK (show fJ 14 o 120=some true by rw [fP];exact gF some bMv);have W3:=aK (show fJ 0 a2 a1=some true by rw [fP];exact gF some (by have:=B2.out;unfold rM at this;exact this));have W4:=aK (show fJ a1 a3 (l0.length:Int)=some true by rw [fP];exact gF some (by have:=B3.out;unfold rM at this;exact this));obtain ⟨cn,hcn⟩: ∃cn,cn=xN o:=⟨_,rfl⟩;have W5:=aK (show sI o=some cn by rw [hcn];rfl);have e5:((l4.length:Int)==cn)=true:=by have:=B4.out;unfold rM at this;rw [hcn,HO.out];exact this
 clear hcn;have b0:=B0.out;have b1:=B1.out;have b2:=B2.out;have b3:=B3.out;unfold rM at b0 b1 b2 b3;have b0:=bB b0;have b1:=bB b1;have b2:=bB b2;have b3:=bB b3;rw [←HO.out] at b1;obtain ⟨y,hy⟩: ∃y:Nat,a1=(y:Int):=⟨a1.toNat,by omega⟩;have hyl:y≤l0.length:=by omega
 have hz2:a2.toNat≤y:=by omega
 have hy0:a1.toNat=y:=by omega
 obtain ⟨ad,had⟩: ∃ad,A0=some ad:=by
  have h0:=HO.out;have hL:=HL.out;obtain ⟨ad,e,_⟩:=dL HR0.out 0 (by omega) (by unfold wrap64 at h0;omega);exact ⟨ad,e⟩
 subst had;have P1:=aK hy;have P2:=aK hyl;have P3:=aK HC0.out
 obtain ⟨ad2,h2⟩: ∃ad2,(if c0=y then some ad else some (ad.add y))=some ad2:=by
  by_cases h:c0=y
  ·exact ⟨ad,if_pos h⟩
  ·exact ⟨ad.add y,if_neg h⟩
 obtain ⟨z,hz⟩: ∃z,l0.length - y=z:=⟨_,rfl⟩;obtain ⟨zc,hzc⟩: ∃zc,c0 - y=zc:=⟨_,rfl⟩;have P4:=aK h2;have P5:=aK hz;have P6:=aK hzc;obtain ⟨i3,hi3,_,hsz3,_⟩:=info_parts qT;have IX0: ∀W:World,(Instr.index 119 (.agg #[.slice (some ad) y c0,.slice (some ad2) z zc]) (.int .i64 0)).run Try.prog W= .ok (.slice (some ad) y c0) W:=fun W=>by kernel_rfl
 have IX1: ∀W:World,(Instr.index 119 (.agg #[.slice (some ad) y c0,.slice (some ad2) z zc]) (.int .i64 1)).run Try.prog W= .ok (.slice (some ad2) z zc) W:=fun W=>by kernel_rfl
 obtain ⟨E1,hE1⟩: ∃E1:Option Addr,E1=if c0=a2.toNat then some ad else (some ad).map (·.add (a2.toNat*1)):=⟨_,rfl⟩
 obtain ⟨L1,hL1⟩: ∃L1,L1=(l0.take y).drop a2.toNat:=⟨_,rfl⟩;have n1:L1.length=y - a2.toNat:=by rw [hL1,dJ,dB,kL hyl]
 have SL1:=bCd (P:=Try.prog) 23 3 .i64 Try.underlying23 hi3 1 hsz3 (some ad) y c0 a2 (by omega) (by omega);rw [←hE1,←n1] at SL1
 have HE1:=aK (show Kd.C (Kd.int .i64) w E1 L1.length L1 by
  have hT:=Kd.C_take HR0.out hyl;have hD:=Kd.C_drop (c:=c0) hT (m:=a2.toNat) (by rw [dB];omega) (by rw [dB];have:=HC0.out;omega);rw [←hL1] at hD;rw [hE1]
  exact hD)
 have HEl1:=aK (show L1.length≤281474976710656 by have:=HL.out;rw [n1];omega);have HV1:=aK (show L1.all (· ==0)=true by have:=B5.out;unfold rM at this;rw [hy0,←hL1] at this;exact this);obtain ⟨d,hd⟩: ∃d,d=a3 - a1:=⟨_,rfl⟩;have q2:IntKind.i64.wrap (a3 - a1)=d:=by rw [hd];exact dD _ ⟨by have:=HL.out;omega,by have:=HL.out;omega⟩
 obtain ⟨E2,hE2⟩: ∃E2:Option Addr,E2=if zc=d.toNat then some ad2 else (some ad2).map (·.add (d.toNat*1)):=⟨_,rfl⟩
 obtain ⟨L2,hL2⟩: ∃L2,L2=(l0.drop y).drop d.toNat:=⟨_,rfl⟩;have n2:L2.length=z - d.toNat:=by rw [hL2,dJ,dJ,hz]
 have SL2:=bCd (P:=Try.prog) 23 3 .i64 Try.underlying23 hi3 1 hsz3 (some ad2) z zc d (by omega) (by omega);rw [←hE2,←n2] at SL2
 have HE2:=aK (show Kd.C (Kd.int .i64) w E2 L2.length L2 by
  have hT:=Kd.C_drop (c:=c0) HR0.out hyl HC0.out;have e2:(if c0=y then some ad else (some ad).map (·.add (y*(Kd.int .i64).sz)))=some ad2:=by rw [←h2];show (if c0=y then some ad else some (ad.add (y*1)))=_;rw [pI]
  rw [e2] at hT;have hD:=Kd.C_drop (c:=zc) hT (m:=d.toNat) (by rw [dJ];omega) (by rw [dJ];have:=HC0.out;omega);rw [←hL2] at hD;rw [hE2]
  exact hD)
 have HEl2:=aK (show L2.length≤281474976710656 by have:=HL.out;rw [n2];omega);have HV2:=aK (show L2.all (· ==0)=true by have:=B6.out;unfold rM at this;rw [hy0,←hd,←hL2] at this;exact this);have HZ:=aK (show true=r by rw [←HR.out,B0.out,B1.out,B2.out,B3.out,B4.out,B5.out,B6.out];rfl);clear hy hy0 hyl hz2 b0 b1 b2 b3 hL1 hE1 n1 h2 hz hzc hi3 hsz3 hd hL2 hE2 n2;go_enter Try.func66,Try.ntmps66;go_wp2;refine sT 56 (S:=fun w'=>Aside0 (Below w.heap.size w w')∧w'.cell? ⟨w.heap.size,0,none⟩=some (.slice (some ad) l0.length c0)∧w'.cell? ⟨w.heap.size,1,none⟩=some (.int .i64 a1)∧w'.cell? ⟨w.heap.size,2,none⟩=some (.int .i64 a2)∧w'.cell? ⟨w.heap.size,3,none⟩=some (.int .i64 a3)∧w'.cell? ⟨w.heap.size,4,none⟩=some (.slice A4 l4.length c4)) (ds:=[]) ⟨⟨bG HB.out⟩,(by go_simp),(by go_simp),(by go_simp),(by go_simp),(by go_simp)⟩ (fun hHeld=>?_);refine cJ 0 ?_;refine tS 1 12 (lA 56 3) rfl rfl (by kernel_rfl) hHeld pK ?_;refine oS 2 13 (lA 56 7) rfl rfl (fun K hK=>?_);refine gO Try.func96 #[.int .i64 0,.int .i64 a1,.int .i64 40] ?_;(with_reducible refine (dW 0 a1 40 true _ W1.out).mono ?_);rintro e w3 ⟨rfl,⟨n1,rfl⟩⟩;refine ⟨_,rfl,?_⟩;refine hK.out _ _ ⟨⟨bI hHeld.1.out _⟩,hHeld.2⟩ (fun hHeld=>?_);clear hK K;refine nS 13 ?_;refine cJ 3 ?_;refine cJ 4 ?_;refine oS 5 16 (lA 56 63) rfl rfl (fun K hK=>?_);refine gO Try.func96 #[.int .i64 14,.int .i64 o,.int .i64 120] ?_;(with_reducible refine (dW 14 o 120 true _ W2.out).mono ?_);rintro e w3 ⟨rfl,⟨n1,rfl⟩⟩;refine ⟨_,rfl,?_⟩;refine hK.out _ _ ⟨⟨bI hHeld.1.out _⟩,hHeld.2⟩ (fun hHeld=>?_);clear hK K;refine nS 16 ?_;refine cJ 6 ?_;refine cJ 7 ?_;refine cJ 8 ?_;refine cJ 10 ?_;refine tS 9 20 (lA 56 2047) rfl rfl (by kernel_rfl) hHeld pK ?_;refine tS 11 22 (lA 56 4095) rfl rfl (by kernel_rfl) hHeld pK ?_;refine oS 12 23 (lA 56 8191) rfl rfl (fun K hK=>?_);refine gO Try.func96 #[.int .i64 0,.int .i64 a2,.int .i64 a1] ?_;(with_reducible refine (dW 0 a2 a1 true _ W3.out).mono ?_);rintro e w3 ⟨rfl,⟨n1,rfl⟩⟩;refine ⟨_,rfl,?_⟩;refine hK.out _ _ ⟨⟨bI hHeld.1.out _⟩,hHeld.2⟩ (fun hHeld=>?_);clear hK K;refine nS 23 ?_;refine cJ 13 ?_;refine cJ 14 ?_;refine cJ 15 ?_;refine cJ 17 ?_;refine cJ 19 ?_;refine tS 16 27 (lA 56 786431) rfl rfl (by kernel_rfl) hHeld pK ?_;refine tS 18 29 (lA 56 1048575) rfl rfl (by kernel_rfl) hHeld pK ?_;refine tS 20 31 (lA 56 2097151) rfl rfl (by kernel_rfl) hHeld pK ?_;refine cJ 21 ?_;refine oS 22 33 (lA 56 8388607) rfl rfl (fun K hK=>?_);refine gO Try.func96 #[.int .i64 a1,.int .i64 a3,.int .i64 (l0.length:Int)] ?_;(with_reducible refine (dW a1 a3 (l0.length:Int) true _ W4.out).mono ?_);rintro e w3 ⟨rfl,⟨n1,rfl⟩⟩;refine ⟨_,rfl,?_⟩;refine hK.out _ _ ⟨⟨bI hHeld.1.out _⟩,hHeld.2⟩ (fun hHeld=>?_);clear hK K;refine nS 33 ?_;refine cJ 23 ?_;refine cJ 24 ?_;refine cJ 25 ?_;refine cJ 28 ?_;refine tS 26 37 (lA 56 402653183) rfl rfl (by kernel_rfl) hHeld pK ?_;refine cJ 27 ?_;refine oS 29 40 (lA 56 1073741823) rfl rfl (fun K hK=>?_);refine gO Try.func97 #[.int .i64 o] ?_;(with_reducible refine (rO o cn _ W5.out).mono ?_);rintro e w3 ⟨rfl,⟨n1,rfl⟩⟩;refine ⟨_,rfl,?_⟩;refine hK.out _ _ ⟨⟨bI hHeld.1.out _⟩,hHeld.2⟩ (fun hHeld=>?_);clear hK K;refine nS 40 ?_;refine cJ 30 ?_;refine cJ 31 ?_;refine cJ 32 ?_;refine cJ 36 ?_;refine cJ 39 ?_;refine tS 33 44 (lA 56 635655159807) rfl rfl (by kernel_rfl) hHeld pK ?_;refine tS 37 48 (lA 56 773094113279) rfl rfl (by kernel_rfl) hHeld pK ?_;refine oS 34 45 (lA 56 790273982463) rfl rfl (fun K hK=>?_);refine gO Try.func98 #[.agg #[.slice (some ad) l0.length c0,.int .i64 a1,.int .i64 a2,.int .i64 a3,.slice A4 l4.length c4]] ?_;(with_reducible refine (Mem_parts.calls2 ad ad2 l0.length c0 y z zc a1 a2 a3 (.slice A4 l4.length c4) rfl _ P1.out P2.out P3.out P4.out P5.out P6.out).mono ?_);rintro e w3 ⟨rfl,hb3⟩;refine ⟨_,rfl,?_⟩;refine hK.out _ _ ⟨⟨bK hHeld.1.out hb3⟩,(bDe hb3 hHeld.2)⟩ (fun hHeld=>?_);clear hK K;refine nS 45 ?_
 refine tS 35 46 (lA 56 824633720831) rfl rfl (by kernel_rfl) hHeld pK ?_;refine cJ 38 ?_;refine oS 40 51 (lA 56 2199023255551) rfl rfl (fun K hK=>?_);refine gO Try.func76 #[.slice E1 L1.length (c0 - a2.toNat),.func (.func 95) #[] #[]] ?_;(with_reducible refine (rE E1 (c0 - a2.toNat) L1 _ (cG HE1.out hHeld.1.out) HEl1.out).mono ?_);rintro e w3 ⟨rfl,hb3⟩;rw [HV1.out];refine ⟨_,rfl,?_⟩;refine hK.out _ _ ⟨⟨bK hHeld.1.out hb3⟩,(bDe hb3 hHeld.2)⟩ (fun hHeld=>?_);clear hK K;refine nS 51 ?_;refine cJ 41 ?_;refine cJ 42 ?_;refine cJ 46 ?_;refine cJ 48 ?_;refine cJ 52 ?_;refine tS 43 54 (lA 56 4873035534303231) rfl rfl (by kernel_rfl) hHeld pK ?_;refine tS 47 58 (lA 56 5013773022658559) rfl rfl (by kernel_rfl) hHeld pK ?_;refine tS 49 60 (lA 56 5576722976079871) rfl rfl (by kernel_rfl) hHeld pK ?_;refine cJ 50 ?_;refine oS 44 55 (lA 56 6720215068966911) rfl rfl (fun K hK=>?_);refine gO Try.func98 #[.agg #[.slice (some ad) l0.length c0,.int .i64 a1,.int .i64 a2,.int .i64 a3,.slice A4 l4.length c4]] ?_;(with_reducible refine (Mem_parts.calls2 ad ad2 l0.length c0 y z zc a1 a2 a3 (.slice A4 l4.length c4) rfl _ P1.out P2.out P3.out P4.out P5.out P6.out).mono ?_);rintro e w3 ⟨rfl,hb3⟩;refine ⟨_,rfl,?_⟩;refine hK.out _ _ ⟨⟨bK hHeld.1.out hb3⟩,(bDe hb3 hHeld.2)⟩ (fun hHeld=>?_);clear hK K;refine nS 55 ?_;refine tS 45 56 (lA 56 6755399441055743) rfl rfl (by kernel_rfl) hHeld pK ?_;refine cJ 51 ?_;refine oS 53 64 (lA 56 18014398509481983) rfl rfl (fun K hK=>?_);refine gO Try.func76 #[.slice E2 L2.length (zc - d.toNat),.func (.func 95) #[] #[]] ?_;(with_reducible refine (rE E2 (zc - d.toNat) L2 _ (cG HE2.out hHeld.1.out) HEl2.out).mono ?_);rintro e w3 ⟨rfl,hb3⟩;rw [HV2.out];refine ⟨_,rfl,?_⟩;refine hK.out _ _ ⟨⟨bK hHeld.1.out hb3⟩,(bDe hb3 hHeld.2)⟩ (fun hHeld=>?_);clear hK K;refine nS 64 ?_;refine cJ 54 ?_;refine cJ 55 ?_;refine gT (by kernel_rfl) ?_;go_wp2;go_ret;exact ⟨by rw [←HZ.out];rfl,hHeld.1.out⟩
def gJ:Nat→List (S53)→Int→Option (List Int)
  |0,_,_=>none
  |k+1,l0,a1=>if a1=0 then (some ([]:List Int)) else (if 0≤a1 then (if a1<(l0.length:Int) then ((gJ k l0 ((cY l0 a1).f0)).bind fun t289=>(if t289.length+((cY l0 a1).f1).length<17592186044416 then (some (t289++((cY l0 a1).f1))) else (none))) else (none)) else (none))
def impl_classFields.T3:Bool×List (List Nat×List Nat):=(true,[([],[]),([],[]),([],[]),([1,2],[1,2]),([3],[3]),([4],[4]),([0,5],[0,5]),([],[]),([],[]),([7,8],[7,8]),([9],[9]),([10],[10]),([6,11,6],[6,11]),([12,12,0,1,2,3,4,5,6,7,8,9,10,11,12],[12])])
def impl_classFields.B3:List Nat:=[0,0,0,6,14,30,63,0,0,384,896,1920,4095,8191]
theorem bBf:vF .any (bLl Try.f99 3)=impl_classFields.T3:=by kernel_rfl
theorem bAx:xY impl_classFields.T3.2 impl_classFields.B3=true:=by kernel_rfl
theorem bAw (k:Nat): ∀(A0:Option Addr) (c0:Nat) (l0:List (S53)) (a1:Int) (r:List Int) (w:World) (hr0:Kd.C tU w A0 l0.length l0) (hc0:l0.length≤c0) (h:gJ k l0 a1=some r),
  Calls Try.prog 99 #[.slice A0 l0.length c0,.int .i64 a1] w fun e w'=> ∃v0_:Value,e= .returned (v0_)∧Kd.R (Kd.int .i64) 3 w' w.heap.size (fun _=>True) v0_ r∧Below w.heap.size w w':=by
 induction k using Nat.strongRecOn with
 |_ k ih=>
 intro A0 c0 l0 a1 r w hr0 hc0 h
 cases k with
 |zero=>exact absurd h (by simp [gJ])
 |succ k=>
 simp only [gJ] at h;have HR0:=aK hr0;have HC0:=aK hc0;clear hr0 hc0;have HB:=aK (bH w.heap.size w);have H:(if a1=0 then (some ([]:List Int)) else (if 0≤a1 then (if a1<(l0.length:Int) then ((gJ k l0 ((cY l0 a1).f0)).bind fun t289=>(if t289.length+((cY l0 a1).f1).length<17592186044416 then (some (t289++((cY l0 a1).f1))) else (none))) else (none)) else (none)))=some r:=h
 clear h;by_cases c3:a1=0
 ·rw [if_pos c3] at H
  have c3b0:(a1==0)=true:=zH.mpr c3
  have c3b1:(a1 !=0)=false:=bne_eq_false_iff_eq.mpr c3
  clear c3;obtain rfl:=bE H;go_enter Try.func99,Try.ntmps99;go_wp2;go_ret;exact ⟨_,by first|rfl|(simp [dS,dR]<;>rfl)|(simp [*,dS,dR]<;>rfl),by first|exact mI _ _ _ _ _|exact Kd.N_nil _ _ _ _ _|exact Kd.V_nil _ _ _ _ _|exact Kd.Q_nil _ _ _ _ _|exact Kd.S_nil _ _ _ _ _,by repeat (first|(with_reducible first|exact HB.out|apply bJ|apply bI|apply bG)|exact HB.out)⟩
 ·rw [if_neg c3] at H
  have c3b0:(a1==0)=false:=xP.mpr c3
  have c3b1:(a1 !=0)=true:=bne_iff_ne.mpr c3
  by_cases c4:0≤a1
  ·rw [if_pos c4] at H
   have c4b0:decide (0≤a1)=true:=bD c4
   clear c4;by_cases c5:a1<(l0.length:Int)
   ·rw [if_pos c5] at H
    have c5b0:decide (a1<(l0.length:Int))=true:=bD c5
    clear c5;replace H:=Option.bind_eq_some_iff.mp H;obtain ⟨t289,A60,H⟩:=H;(try dsimp only at H);have A6:=aK A60;clear A60;by_cases c7:t289.length+((cY l0 a1).f1).length<17592186044416
    ·rw [if_pos c7] at H
     have LMc7:=aK c7;clear c7;obtain ⟨y293,hy293⟩: ∃y_:List Int,y_=(t289++((cY l0 a1).f1)):=⟨_,rfl⟩;replace H:(some y293)=some r:=by first|(rw [hy293];with_reducible exact H)|(have H2_:=(bC _ _).symm.trans H;rw [hy293];with_reducible exact H2_)|(have H2_:=(bC _ _).symm.trans H;with_reducible exact H2_)|with_reducible exact H|(rw [hy293];exact H)|exact H
     have Ny293:=aK hy293;clear hy293;obtain rfl:=bE H;go_enter Try.func99,Try.ntmps99;try go_wp2
     have n0_:=aK (bG HB.out);clear HB;have HB:=n0_;clear n0_;have p288:0≤(a1:Int):=bB jX
     have q288:a1<(l0.length:Int):=bB jX
     obtain ⟨ad288,A288_1,c288_1,e288,hx288_0,hx288_1,hl288_1,hi288_1⟩:=bAb HR0.out a1 p288 q288;have hw288_1:=hx288_1;have hw288_0:=hx288_0
     cases e288
     replace hx288_0:=(HB.out.cell (bN w _ hx288_0)).trans hx288_0;replace hx288_1:=(HB.out.cell (bN w _ hx288_1)).trans hx288_1;have HR288_1:=aK hi288_1;have HC288_1:=aK hl288_1;clear hi288_1 hl288_1;replace p288:=bO p288;replace q288:=bO q288;have p292:0≤(a1:Int):=bB jX
     have q292:a1<(l0.length:Int):=bB jX
     obtain ⟨ad292,A292_1,c292_1,e292,hx292_0,hx292_1,hl292_1,hi292_1⟩:=bAb HR0.out a1 p292 q292;have hw292_1:=hx292_1;have hw292_0:=hx292_0;obtain rfl:ad288=ad292:=(by injection e292);replace hx292_0:=(HB.out.cell (bN w _ hx292_0)).trans hx292_0;replace hx292_1:=(HB.out.cell (bN w _ hx292_1)).trans hx292_1;have HR292_1:=aK hi292_1;have HC292_1:=aK hl292_1;clear hi292_1 hl292_1;replace p292:=bO p292;replace q292:=bO q292;have ea_:=bE (hx288_1.symm.trans hx292_1);injection ea_ with ea_ en_ ec_;subst ea_;subst ec_;clear en_;refine sT 14 (S:=fun w'=>w'.cell? (ad288.add ((a1).toNat*2))=some (.int .i64 ((cY l0 a1).f0))∧w'.cell? ⟨(ad288.add ((a1).toNat*2)).block,(ad288.add ((a1).toNat*2)).off+1,none⟩=some (.slice A288_1 ((cY l0 a1).f1).length c288_1)∧w'.cell? (ad288.add ((a1).toNat*2))=some (.int .i64 ((cY l0 a1).f0))∧w'.cell? ⟨(ad288.add ((a1).toNat*2)).block,(ad288.add ((a1).toNat*2)).off+1,none⟩=some (.slice A288_1 ((cY l0 a1).f1).length c288_1)) (ds:=[]) ⟨((HB.out.cell (bN w _ hw288_0)).trans hw288_0),((HB.out.cell (bN w _ hw288_1)).trans hw288_1),((HB.out.cell (bN w _ hw292_0)).trans hw292_0),((HB.out.cell (bN w _ hw292_1)).trans hw292_1)⟩ (fun hHeld=>?_);refine qZ bBf bAx (fun HT_ HW_=>?_);generalize w.drew=w8 at HB HR288_1 HR292_1 hx288_0 hx288_1 hx292_0 hx292_1 hHeld ⊢;refine mC 0 ?_;refine mC 1 ?_;refine mC 2 ?_;refine mC 3 ?_;refine mC 4 ?_;refine mC 7 ?_;refine mC 8 ?_;refine mC 9 ?_;refine mC 10 ?_;refine tS 5 12 (lA 14 1983) rfl rfl (jR HT_.out HW_.out (by kernel_rfl)) hHeld sM ?_;refine tS 11 18 (lA 14 4031) rfl rfl (jR HT_.out HW_.out (by kernel_rfl)) hHeld sM ?_;refine pD (i:=6) (N:=some 13) (lA 14 4095) rfl rfl (mT HT_.out (by kernel_rfl)) (by decide) (fun K hK=>?_);refine qU Try.func99 (by kernel_rfl) rfl #[.slice (some ad288) l0.length c0,.int .i64 ((cY l0 a1).f0)] (by rfl) rfl rfl qD ?_;(with_reducible refine (ih k (by omega) _ _ l0 ((cY l0 a1).f0) t289 _ ?side1 ?side2 A6.out).mono ?_)
     (case side1=>exact bDl)
     (case side2=>exact HC0.out)
     rintro e w9 ⟨v290,rfl,ho0,hb⟩;refine ⟨_,rfl,?_⟩;have n0_:=aK (dE ho0 (bW nQ));have n1_:=aK (bK nQ hb);clear HB;have HO291:=n0_;have HB:=n1_;clear n0_ n1_;(try clear hb);(try clear hb2);(try clear hk);(try clear hi);(try clear ho0);refine hK.out _ _ ⟨((HB.out.cell (bN w _ hw288_0)).trans hw288_0),((HB.out.cell (bN w _ hw288_1)).trans hw288_1),((HB.out.cell (bN w _ hw292_0)).trans hw292_0),((HB.out.cell (bN w _ hw292_1)).trans hw292_1)⟩ (fun hHeld=>?_);clear hK K;refine nS 13 ?_;refine pD (i:=12) (N:=some 19) (lA 14 8191) rfl rfl (mT HT_.out (by kernel_rfl)) (by decide) (fun K hK=>?_);refine Kd.R_append_rows_step (Kd.int .i64) (w0:=w) w.heap.size (by rfl) (.tmp 13) (.tmp 18) 23 3 (.int .i64 0) 8 rfl Try.underlying23 qT rfl (by decide) (by omega) v290 t289 ((cY l0 a1).f1) _ _ _ (fun _=>True) (fun _=>False) rfl rfl ?aO ?aR (fun _ _ h=>h) (fun _ h=>h.elim) ?aF ?aB ?aS ?aL ?_
     (case aR=>repeat (first|exact (cG HR292_1.out HB.out)|(with_reducible refine Kd.C_alloc ?_ _)|(with_reducible refine Kd.C_drewN ?_ _)|(with_reducible refine Kd.C_drew ?_)))
     (case aB=>exact nQ)
     (case aF=>exact (fun _ _=>trivial))
     (case aO=>exact (by (with_reducible repeat (first|apply Kd.R_alloc|apply dA|apply dC));exact HO291.out))
     (case aS=>exact (bW nQ))
     (case aL=>have:=LMc7.out;omega)
     intro v294 w10 ho hb hg hat;rw [←Ny293.out] at ho;have n0_:=aK (hb);have n1_:=aK (ho);clear HB;clear HO291;have HB:=n0_;have HO295:=n1_;clear n0_ n1_;clear ho hb hg hat;refine hK.out _ _ ⟨((HB.out.cell (bN w _ hw288_0)).trans hw288_0),((HB.out.cell (bN w _ hw288_1)).trans hw288_1),((HB.out.cell (bN w _ hw292_0)).trans hw292_0),((HB.out.cell (bN w _ hw292_1)).trans hw292_1)⟩ (fun hHeld=>?_);clear hK K;refine nS 19 ?_;refine mC 13 ?_;refine gT (vH HT_.out (by kernel_rfl)) ?_;try go_wp2
     go_ret;exact ⟨_,by first|rfl|(simp [dS,dR]<;>rfl)|(simp [*,dS,dR]<;>rfl),by (with_reducible repeat (first|apply Kd.R_alloc|apply dA|apply dC));exact HO295.out,by repeat (first|(with_reducible first|exact HB.out|apply bJ|apply bI|apply bG)|exact HB.out)⟩
    ·rw [if_neg c7] at H
     exact absurd H (by simp)
   ·rw [if_neg c5] at H
    exact absurd H (by simp)
  ·rw [if_neg c4] at H
   exact absurd H (by simp)
def kC:Nat→List (S53)→List (List Int)→Int→Int→Option ((List (List Int)))
  |0,_,_,_,_=>none
  |k+1,x0,x3,x6,x7=>if x7<x6 then ((gJ k x0 x7).bind fun t296=>(if x3.length<5864062014805 then (kC k x0 (x3++[t296]) x6 (wrap64 (x7+1))) else (none))) else (some x3)
def sN (k:Nat) (l0:List (S53)):Option ((List (List Int))):=kC k l0 ([]:List (List Int)) (l0.length:Int) 0
theorem bCa (k:Nat) (A0:Option Addr) (c0:Nat) (l0:List (S53)) (r:List (List Int)) (w:World) (hr0:Kd.C tU w A0 l0.length l0) (hc0:l0.length≤c0) (h:sN k l0=some r):
  Calls Try.prog 67 #[.slice A0 l0.length c0] w fun e w'=> ∃v0_:Value,e= .returned (v0_)∧Kd.S (Kd.slice 3 (Kd.int .i64)) 23 w' w.heap.size (fun _=>True) v0_ r∧Below w.heap.size w w':=by
 have HR0:=aK hr0;have HC0:=aK hc0;clear hr0 hc0;have HB:=aK (bH w.heap.size w);have H:(kC k l0 ([]:List (List Int)) (l0.length:Int) 0)=some r:=h
 clear h;have H':=aK H;clear H;go_enter Try.func67,Try.ntmps67;go_wp2
 go_loopg [3,7] k (fun kq v3 v7 w'=> ∃(x3_1:List (List Int)) (x7_1:Int),v7= .int .i64 x7_1∧Aside0 (kC kq l0 x3_1 (l0.length:Int) x7_1=some r)∧Aside0 (kq≤k)∧Aside0 (Kd.S (Kd.slice 3 (Kd.int .i64)) 23 w' w.heap.size (fun _=>True) v3 x3_1)∧Aside0 (Below w.heap.size w w'))
 case atStart=>exact ⟨(([]:List (List Int))),(0),nR,H',⟨bV _⟩,⟨by first|exact Kd.S_nil _ _ _ _ _|exact Kd.N_nil _ _ _ _ _|exact Kd.V_nil _ _ _ _ _|exact Kd.Q_nil _ _ _ _ _|exact mI _ _ _ _ _⟩,⟨by repeat (first|(with_reducible first|exact HB.out|apply bJ|apply bI|apply bG)|exact HB.out)⟩⟩
 case round=>
  clear H';obtain ⟨x3_1,x7_1,rfl,HA,HK1,HO_3,HB⟩:=hrel
  cases gk with
  |zero=>exact absurd HA.out (by simp [kC])
  | succ k1 =>
   have H:=HA.out;clear HA;simp only [kC] at H;by_cases c2:x7_1<(l0.length:Int)
   ·rw [if_pos c2] at H
    have c2b0:decide (x7_1<(l0.length:Int))=true:=bD c2
    clear c2;replace H:=Option.bind_eq_some_iff.mp H;obtain ⟨t296,A30,H⟩:=H;(try dsimp only at H);have A3:=aK A30;clear A30;by_cases c4:x3_1.length<5864062014805
    ·rw [if_pos c4] at H
     have LMc4:=aK c4;clear c4;obtain ⟨y299,hy299⟩: ∃y_:List (List Int),y_=(x3_1++[t296]):=⟨_,rfl⟩;replace H:(kC k1 l0 y299 (l0.length:Int) (wrap64 (x7_1+1)))=some r:=by first|(rw [hy299];with_reducible exact H)|(have H2_:=(bC _ _).symm.trans H;rw [hy299];with_reducible exact H2_)|(have H2_:=(bC _ _).symm.trans H;with_reducible exact H2_)|with_reducible exact H|(rw [hy299];exact H)|exact H
     have Ny299:=aK hy299;clear hy299;have H':=aK H;clear H
     go_wp2_with (first|((with_reducible refine dG (f:=99) rfl ?_);refine gE (some 13) rfl rfl Try.func99 (by kernel_rfl) rfl #[.slice A0 l0.length c0,.int .i64 x7_1] rfl qD ?_;(with_reducible refine (bAw k1 _ _ l0 x7_1 t296 _ ?side1 ?side2 A3.out).mono ?_);(case side1=>exact bDl);(case side2=>exact HC0.out);rintro e w5 ⟨v297,rfl,ho0,hb⟩;refine ⟨_,rfl,?_⟩;have HO298:=aK (dE ho0 (bW nQ));replace HO_3:=aK (Kd.S_elder' (by (with_reducible repeat (first|apply Kd.S_alloc|apply Kd.S_drewN|apply Kd.S_drew));exact HO_3.out) (nN ho0) hb);replace HB:=aK (bK nQ hb);(try clear hb);(try clear hb2);(try clear hk);(try clear hi);(try clear ho0);obtain ⟨Ao7,co7,eo7⟩:=cL HO298.out;subst eo7)|((with_reducible refine jK (b:= .append) (xs:= #[.tmp 10,.tmp 14]) rfl ?_);at_builtin;refine Kd.S_append (Kd.slice 3 (Kd.int .i64)) (w0:=w) w.heap.size rfl (.tmp 10) (.tmp 14) 66 23 (.slice none 0 0) 24 rfl Try.underlying66 info23 rfl (by decide) (by omega) u3 x3_1 t296 [.slice Ao7 t296.length co7] (fun _=>True) (fun k_=>some k_=(.slice Ao7 t296.length co7:Value).ownBlock) rfl rfl ?aP (fun k_ hk_=>((cI (ok':=fun k_=>((fun _=>True)) k_∧some k_≠(u3:Value).ownBlock) (Kd.R_apart' (HO298.out) (Kd.S_typed HO_3.out) (by decide)) (fun k_ hk=>⟨dT,hk.2⟩))).1 k_ hk_.symm) ?aF ?aO ?aB ?aS ?aL ?_;(case aP=>exact Kd.M_row (cI (Kd.R_tight rfl (cI (ok':=fun k_=>((fun _=>True)) k_∧some k_≠(u3:Value).ownBlock) (Kd.R_apart' (HO298.out) (Kd.S_typed HO_3.out) (by decide)) (fun k_ hk=>⟨dT,hk.2⟩))) (fun _ h_=>h_)));(case aB=>exact nQ);(case aF=>exact (fun _ _=>trivial));(case aO=>exact (by (with_reducible repeat (first|apply Kd.S_alloc|apply Kd.S_drewN|apply Kd.S_drew));exact Kd.S_mono HO_3.out (fun k_ hk=>⟨dT,fun e_=>hk.2 e_⟩)));(case aS=>exact (bW nQ));(case aL=>have:=LMc4.out;omega);intro v300 w6 ho hb hg hat;rw [←Ny299.out] at ho;have n0_:=aK (hb);have n1_:=aK (ho);clear HB;clear HO_3;clear HO298;have HB:=n0_;have HO301:=n1_;clear n0_ n1_;clear ho hb hg hat))
     go_roundg k1
     case measure=>have:=HK1.out;omega
     case rel=>exact ⟨(y299),(wrap64 (x7_1+1)),nR,H',⟨by have:=HK1.out;omega⟩,⟨by (with_reducible repeat (first|apply Kd.S_alloc|apply Kd.S_drewN|apply Kd.S_drew));exact HO301.out⟩,⟨by repeat (first|(with_reducible first|exact HB.out|apply bJ|apply bI|apply bG)|exact HB.out)⟩⟩
    ·rw [if_neg c4] at H
     exact absurd H (by simp)
   ·rw [if_neg c2] at H
    have c2b0:decide (x7_1<(l0.length:Int))=false:=bM c2
    clear c2;obtain rfl:=bE H;go_wp2;go_ret;exact ⟨_,by first|rfl|(simp [dS,dR]<;>rfl)|(simp [*,dS,dR]<;>rfl),by (with_reducible repeat (first|apply Kd.S_alloc|apply Kd.S_drewN|apply Kd.S_drew));exact HO_3.out,by repeat (first|(with_reducible first|exact HB.out|apply bJ|apply bI|apply bG)|exact HB.out)⟩
def mB:Nat→List (List Int)→Int→Int→Bool→Option (Int)
  |0,_,_,_,_=>none
  |k+1,x0,x1,x2,x7=>if x7=true then ((fJ 0 x2 6).bind fun t302=>(if t302=true then (some (wrap64 (2+x2))) else (some 0))) else (if x1≥0 then (if x1<(x0.length:Int) then (if 0≤x1 then (some (wrap64 (1+((bLk x0 x1).length:Int)))) else (none)) else (some 0)) else (some 0))
def zA (k:Nat) (l0:List (List Int)) (a1:Int) (a2:Int):Option (Int):=if a1=(-1) then (mB k l0 a1 a2 true) else (mB k l0 a1 a2 (a1==(-2)))
theorem bEa (k:Nat) (A0:Option Addr) (c0:Nat) (l0:List (List Int)) (a1:Int) (a2:Int) (r:Int) (w:World) (hr0:Kd.C (Kd.slice 3 (Kd.int .i64)) w A0 l0.length l0) (hc0:l0.length≤c0) (h:zA k l0 a1 a2=some r):
  Calls Try.prog 100 #[.slice A0 l0.length c0,.int .i64 a1,.int .i64 a2] w fun e w'=>e= .returned (.int .i64 r)∧Drawn0 w w':=by
 have HR0:=aK hr0;have HC0:=aK hc0;clear hr0 hc0;have H:(if a1=(-1) then (mB k l0 a1 a2 true) else (mB k l0 a1 a2 (a1==(-2))))=some r:=h
 clear h;have HC4:=aK H;clear H;go_enter Try.func100,Try.ntmps100
 go_upto_region 1 with (fail)
 go_cut [7] (fun v7 wc=> ∃(kq:Nat) (x7_3:Bool),v7= .bool x7_3∧Aside0 (mB kq l0 a1 a2 x7_3=some r)∧Aside0 (kq≤k)∧Drawn0 w wc)
 case first=>
  have H:=HC4.out;clear HC4;by_cases c5:a1=(-1)
  ·rw [if_pos c5] at H
   have c5b0:(a1==(-1))=true:=zH.mpr c5
   have c5b1:(a1 !=(-1))=false:=bne_eq_false_iff_eq.mpr c5
   clear c5
   (first|rw [c5b0]|(simp only [mN,qN];rw [c5b0])|skip)
   have H':=aK H;clear H;go_wp2;go_meet
   case rel=>exact ⟨_,(true),nR,H',⟨by first|omega|exact bV _⟩,by repeat (first|exact Drawn0.refl _|apply Drawn0.step)⟩
  ·rw [if_neg c5] at H
   have c5b0:(a1==(-1))=false:=xP.mpr c5
   have c5b1:(a1 !=(-1))=true:=bne_iff_ne.mpr c5
   (first|rw [c5b0]|(simp only [mN,qN];rw [c5b0])|skip)
   have H':=aK H;clear H;go_wp2;go_meet
   case rel=>exact ⟨_,((a1==(-2))),nR,H',⟨by first|omega|exact bV _⟩,by repeat (first|exact Drawn0.refl _|apply Drawn0.step)⟩
 case rest =>
  clear HC4;(try clear c1);(try clear p2);(try clear c5);(try clear c5b0);(try clear c5b1);obtain ⟨kq,x7_3,rfl,HA,HJ3,⟨mc3,rfl⟩⟩:=hcut
  cases kq with
  |zero=>exact absurd HA.out (by simp [mB])
  | succ kj3 =>
   have H:=HA.out;clear HA;simp only [mB] at H;by_cases c6:x7_3=true
   ·subst c6
    rw [if_pos rfl] at H;replace H:=Option.bind_eq_some_iff.mp H;obtain ⟨t302,A70,H⟩:=H;(try dsimp only at H);have A7:=aK A70;clear A70;by_cases c8:t302=true
    ·subst c8
     rw [if_pos rfl] at H;obtain rfl:=bE H
     go_wp2_with (first|((with_reducible refine dG (f:=96) rfl ?_);refine gE (some 15) rfl rfl Try.func96 (by kernel_rfl) rfl #[.int .i64 0,.int .i64 a2,.int .i64 6] rfl qD ?_;(with_reducible refine (dW 0 a2 6 true _ A7.out).mono ?_);rintro e w' ⟨rfl,⟨nd,rfl⟩⟩;refine ⟨_,rfl,?_⟩))
     go_ret;exact ⟨nR,sF⟩
    ·replace c8 := Bool.eq_false_iff.mpr c8
     subst c8;rw [if_neg (show¬(false=true) by decide)] at H;obtain rfl:=bE H
     go_wp2_with (first|((with_reducible refine dG (f:=96) rfl ?_);refine gE (some 15) rfl rfl Try.func96 (by kernel_rfl) rfl #[.int .i64 0,.int .i64 a2,.int .i64 6] rfl qD ?_;(with_reducible refine (dW 0 a2 6 false _ A7.out).mono ?_);rintro e w' ⟨rfl,⟨nd,rfl⟩⟩;refine ⟨_,rfl,?_⟩))
     go_ret;exact ⟨nR,sF⟩
   ·replace c6 := Bool.eq_false_iff.mpr c6
    subst c6;rw [if_neg (show¬(false=true) by decide)] at H;by_cases c9:a1≥0
    ·rw [if_pos c9] at H
     have c9b0:decide (0≤a1)=true:=bD c9
     clear c9;by_cases c10:a1<(l0.length:Int)
     ·rw [if_pos c10] at H
      have c10b0:decide (a1<(l0.length:Int))=true:=bD c10
      clear c10;by_cases c11:0≤a1
      ·rw [if_pos c11] at H
       have c11b0:decide (0≤a1)=true:=bD c11
       clear c11;obtain rfl:=bE H;have p303:0≤(a1:Int):=bB jX
       have q303:a1<(l0.length:Int):=bB jX
       obtain ⟨ad303,A303_0,c303_0,e303,hx303_0,hl303_0,hi303_0⟩:=at_L1 HR0.out a1 p303 q303
       cases e303
       have HR303_0:=aK hi303_0;have HC303_0:=aK hl303_0;clear hi303_0 hl303_0;replace p303:=bO p303;replace q303:=bO q303;go_wp2;go_ret;exact ⟨nR,sF⟩
      ·rw [if_neg c11] at H
       exact absurd H (by simp)
     ·rw [if_neg c10] at H
      have c10b0:decide (a1<(l0.length:Int))=false:=bM c10
      clear c10;obtain rfl:=bE H;go_wp2;go_ret;exact ⟨nR,sF⟩
    ·rw [if_neg c9] at H
     have c9b0:decide (0≤a1)=false:=bM c9
     clear c9;obtain rfl:=bE H;go_wp2;go_ret;exact ⟨nR,sF⟩
def MO (w:World) (b g:Nat) (m:Mm):Prop:= ∃AW cW AC cC AF cF AB cB,
 w.heap[g]? =some (.cells #[.slice AW m.words.length cW,.int .i64 m.young,.int .i64 m.top,.int .i64 m.old,.slice AC m.cards.length cC,.slice AF m.fields.length cF,.slice AB m.begins.length cB] 68 (0,0))∧b≤g∧m.fields.length≤cF∧
 Kd.R (Kd.int .i64) 3 w b (fun k=>(k≠g∧some k≠(Value.slice AC m.cards.length cC).ownBlock)∧some k≠(Value.slice AB m.begins.length cB).ownBlock) (.slice AW m.words.length cW) m.words∧
 Kd.R Kd.bool 4 w b (fun k=>(k≠g∧some k≠(Value.slice AW m.words.length cW).ownBlock)∧some k≠(Value.slice AB m.begins.length cB).ownBlock) (.slice AC m.cards.length cC) m.cards∧
 Kd.F (Kd.slice 3 (Kd.int .i64)) w (fun k=>((k≠g∧some k≠(Value.slice AW m.words.length cW).ownBlock)∧some k≠(Value.slice AC m.cards.length cC).ownBlock)∧some k≠(Value.slice AB m.begins.length cB).ownBlock) AF m.fields.length m.fields∧
 Kd.R (Kd.int .i64) 3 w b (fun k=>(k≠g∧some k≠(Value.slice AW m.words.length cW).ownBlock)∧some k≠(Value.slice AC m.cards.length cC).ownBlock) (.slice AB m.begins.length cB) m.begins
theorem vJ {w w':World} {b g:Nat} {m:Mm} (h:MO w b g m) (hb:Below w.heap.size w w'):MO w' b g m:=by
  obtain ⟨AW,cW,AC,cC,AF,cF,AB,cB,h0,hg,hf,h1,h2,h3,h4⟩:=h;exact ⟨AW,cW,AC,cC,AF,cF,AB,cB,(hb.block g (dN h0)).trans h0,hg,hf,bZ h1 hb,bZ h2 hb,Kd.F_below h3 hb,bZ h4 hb⟩
theorem bIa {w:World} {b g:Nat} {m:Mm} (h:MO w b g m):MV w g m:=by
  obtain ⟨AW,cW,AC,cC,AF,cF,AB,cB,h0,hg,hf,h1,h2,h3,h4⟩:=h;exact ⟨AW,cW,AC,cC,AF,cF,AB,cB,h0,(cD h1).2.2,(cD h2).2.2,Kd.F_now h3,(cD h4).2.2,(cD h1).2.1,(cD h2).2.1,hf,(cD h4).2.1⟩
theorem bJq {w w1:World} {b g:Nat} {m:Mm} {AW:Option Addr} {cW:Nat} {AC:Option Addr} {cC:Nat} {AF:Option Addr} {cF:Nat} {AB:Option Addr} {cB:Nat} {AN:Option Addr} {cN:Nat} {ys acc:List Int}
  (h0:w.heap[g]? =some (.cells #[.slice AW m.words.length cW,.int .i64 m.young,.int .i64 m.top,.int .i64 m.old,.slice AC m.cards.length cC,.slice AF m.fields.length cF,.slice AB acc.length cB] 68 (0,0))) (hg:b≤g) (hf:m.fields.length≤cF)
  (h1:Kd.R (Kd.int .i64) 3 w b (fun k=>(k≠g∧some k≠(Value.slice AC m.cards.length cC).ownBlock)∧some k≠(Value.slice AB acc.length cB).ownBlock) (.slice AW m.words.length cW) m.words)
  (h2:Kd.R Kd.bool 4 w b (fun k=>(k≠g∧some k≠(Value.slice AW m.words.length cW).ownBlock)∧some k≠(Value.slice AB acc.length cB).ownBlock) (.slice AC m.cards.length cC) m.cards)
  (h3:Kd.F (Kd.slice 3 (Kd.int .i64)) w (fun k=>((k≠g∧some k≠(Value.slice AW m.words.length cW).ownBlock)∧some k≠(Value.slice AC m.cards.length cC).ownBlock)∧some k≠(Value.slice AB acc.length cB).ownBlock) AF m.fields.length m.fields)
  (h4:Kd.R (Kd.int .i64) 3 w b (fun k=>(k≠g∧some k≠(Value.slice AW m.words.length cW).ownBlock)∧some k≠(Value.slice AC m.cards.length cC).ownBlock) (.slice AB acc.length cB) acc)
  (hn:Kd.R (Kd.int .i64) 3 w1 b (fun k=>(k≠g∧some k≠(Value.slice AW m.words.length cW).ownBlock)∧some k≠(Value.slice AC m.cards.length cC).ownBlock) (.slice AN ys.length cN) ys)
  (hgr:w.grownBy w1 (Value.slice AB acc.length cB).ownBlock) (hat:(Value.slice AN ys.length cN).ownBlock=(Value.slice AB acc.length cB).ownBlock∨∃k,(Value.slice AN ys.length cN).ownBlock=some k∧w.heap.size≤k):
  MO (w1.setCell ⟨g,6,none⟩ (.slice AN ys.length cN)) b g {m with begins:=ys}:=
 ⟨AW, cW, AC, cC, AF, cF, AN, cN, fF (nE h0 hgr (Kd.R_away h4 (fun _ hk => hk.1.1))) 6 _ rfl, hg, hf,
  jA (Kd.R_after h1 hgr hat) (fun _ hk=>hk.1.1) _,jA (Kd.R_after h2 hgr hat) (fun _ hk=>hk.1.1) _,Kd.F_far (Kd.F_after h3 hgr hat) (fun _ hk=>hk.1.1.1) _,jA hn (fun _ hk=>hk.1.1) _⟩
def jJ (F:List (List Int)) (c n:Int):Int:=if c= -1∨c= -2 then (if 0≤n∧n≤6 then 2+n else 0) else if 0≤c∧c<F.length then 1+((bIc F c).length:Int) else 0
def bFp (F:List (List Int)):Prop:= ∀c:Int,0≤c→c<F.length→(bIc F c).length≤4294967296
theorem bNm {F:List (List Int)} (hF:bFp F) (c n:Int):zA 1 F c n=some (jJ F c n):=by
 have w1: ∀x:Int,fJ 0 x 6=some (decide (0≤x∧x≤6)):=fun x=>by
  unfold fJ;by_cases a:0≤x<;>by_cases b:x≤6<;>simp [a,b]
 have key: ∀t:Bool,mB 1 F c n t=if t=true then (if 0≤n∧n≤6 then some (2+n) else some 0) else if 0≤c∧c<F.length then some (1+((bIc F c).length:Int)) else some 0:=fun t=>by
  show mB (0+1) F c n t=_
  rw [mB,w1]
  cases t with
  | true =>
   simp only [if_pos,bC]
   by_cases a:0≤n∧n≤6
   ·rw [if_pos (bD a), if_pos a]
    congr 1
    unfold wrap64;omega
   ·rw [if_neg (by simpa using a),if_neg a]
  | false =>
   simp only [tQ,if_false]
   by_cases h3:c≥0
   ·rw [if_pos h3]
    by_cases h4:c<(F.length:Int)
    ·rw [if_pos h4, if_pos (show 0 ≤ c from h3), if_pos ⟨h3, h4⟩]
     have:=hF c h3 h4
     show some (wrap64 (1+((bIc F c).length:Int)))=_
     congr 1
     unfold wrap64;omega
    ·rw [if_neg h4,if_neg (fun h=>h4 h.2)]
   ·rw [if_neg h3,if_neg (fun h=>h3 h.1)]
 unfold zA jJ;rw [key,key];by_cases h1:c= -1
 ·rw [if_pos h1, if_pos rfl, if_pos (Or.inl h1)]
  by_cases a:0≤n∧n≤6
  ·rw [if_pos a,if_pos a]
  ·rw [if_neg a,if_neg a]
 ·rw [if_neg h1]
  by_cases h2:c= -2
  ·rw [if_pos (zH.mpr h2), if_pos (Or.inr h2)]
   by_cases a:0≤n∧n≤6
   ·rw [if_pos a,if_pos a]
   ·rw [if_neg a,if_neg a]
  ·rw [if_neg (by simpa using h2), if_neg (show ¬ (c = -1 ∨ c = -2) from fun h => h.elim h1 h2)]
   by_cases a:0≤c∧c<(F.length:Int)
   ·rw [if_pos a,if_pos a]
   ·rw [if_neg a,if_neg a]
theorem bEt (F:List (List Int)) (c n:Int):0≤jJ F c n:=by
 unfold jJ
 split
 ·split<;>omega
 ·split<;>omega
theorem bLr {F:List (List Int)} (hF:bFp F) (c n:Int):jJ F c n≤4294967297:=by
 unfold jJ
 split
 ·split<;>omega
 ·split
  case isTrue h=>have:=hF c h.1 h.2;omega
  case isFalse=>omega
theorem rX (AF:Option Addr) (cF:Nat) (F:List (List Int)) (c n s:Int) (w:World) (hr:Kd.C (Kd.slice 3 (Kd.int .i64)) w AF F.length F) (hc:F.length≤cF) (hF:bFp F) (hs:jJ F c n=s):
    Calls Try.prog 100 #[.slice AF F.length cF,.int .i64 c,.int .i64 n] w fun e w'=>e= .returned (.int .i64 s)∧Below w.heap.size w w':=
  (bEa 1 AF cF F c n s w hr hc (by rw [bNm hF,hs])).mono (fun e w' h=>⟨h.1,h.2.below⟩)
def jV (ws:List Int) (F:List (List Int)) (hi x:Int):Int:=
  if rd ws x<0 then (if x+1<hi then (if jJ F (rd ws x) (rd ws (x+1))≤hi - x then jJ F (rd ws x) (rd ws (x+1)) else 0) else 0)
  else (if jJ F (rd ws x) 0≤hi - x then jJ F (rd ws x) 0 else 0)
def bDh (ws:List Int) (F:List (List Int)) (hi:Int):Nat→Int→List Int→Option (Bool×List Int)
  |0,_,_=>none
  |k+1,x,acc=>if x<hi then (if jV ws F hi x=0 then some (false,acc) else bDh ws F hi k (x+jV ws F hi x) (acc++[x+1])) else some (true,acc)
theorem bAl (ws:List Int) (F:List (List Int)) (hi x:Int):jV ws F hi x=0∨(0<jV ws F hi x∧jV ws F hi x≤hi - x):=by
 unfold jV;have h1:=bEt F (rd ws x) (rd ws (x+1));have h2:=bEt F (rd ws x) 0;repeat' split
 all_goals omega
theorem qJ (b g:Nat) (m:Mm) (from_ hi:Int) (q:Nat) (r:Bool×List Int) (w:World) (hm:MO w b g m) (hb:b≤w.heap.size) (h0:0≤from_) (h1:hi≤m.words.length) (h2:m.words.length≤1048576) (h3:m.begins.length≤1048576) (h4:bFp m.fields)
  (h:bDh m.words m.fields hi q from_ m.begins=some r):
  Calls Try.prog 68 #[.pointer (some ⟨g,0,none⟩),.int .i64 from_,.int .i64 hi] w fun e w'=>e= .returned (.bool r.1)∧MO w' b g {m with begins:=r.2}∧Below b w w':=by
 have HM:=aK hm;have HBs:=aK hb;have H0:=aK h0;have H1:=aK h1;have H2:=aK h2;have H3:=aK h3;have H4:=aK h4;have HW:=aK h;clear hm hb h0 h1 h2 h3 h4 h;go_enter Try.func68,Try.ntmps68;go_wp2
 go_loopw [7] (fun i wr=> ∃(k:Nat) (x:Int) (acc:List Int),i= .int .i64 x∧Aside0 (bDh m.words m.fields hi k x acc=some r)∧Aside0 (0≤x)∧Aside0 (acc.length≤m.begins.length+x.toNat)∧Aside0 (MO wr b g {m with begins:=acc})∧Aside0 (Below b w wr)) (fun i _=>(hi - intOf i).toNat)
 case atStart=>exact ⟨q,from_,m.begins,rfl,HW,H0,⟨by omega⟩,HM,⟨bH _ _⟩⟩
 case round =>
  obtain ⟨k,x,acc,rfl,HA,HX,HL,HO,HB0⟩:=hrel
  cases k with
  |zero=>exact absurd HA.out (by simp [bDh])
  | succ k1 =>
   have H:=HA.out;clear HA;unfold bDh at H;by_cases c0:x<hi
   ·rw [if_pos c0] at H
    have d0:decide (x<hi)=true:=bD c0
    have HV:=aK (bIa HO.out);obtain ⟨AW,cW,AC,cC,AF,cF,AB,cB,g0,hg,hf,r1,r2,r3,r4⟩:=HO.out;have hx:=HX.out;have hl1:=H1.out;have hl2:=H2.out;obtain ⟨ad,e0,hcell⟩:=dL (cD r1).2.2 x (by omega) (by show x<(m.words.length:Int);omega)
    cases e0
    have R1:=aK r1;have R2:=aK r2;have R3:=aK r3;have R4:=aK r4;have G0:=aK g0;have HF:=aK hf;have HGb:=aK hg;have p1:=bO hx;have p2:=bO (show x<(m.words.length:Int) by omega);have k0:=(bA g0 0).trans rfl;have k5:=(bA g0 5).trans rfl;have k6:=(bA g0 6).trans rfl;obtain ⟨u,hu⟩: ∃u,rd m.words x=u:=⟨_,rfl⟩;have HU:=aK hu;replace hcell:wr.cell? (ad.add x.toNat)=some (.int .i64 u):=by rw [←hu];exact hcell
    obtain ⟨x1,hx1⟩: ∃x1,x1=x+1:=⟨_,rfl⟩;have q1:IntKind.i64.wrap (x+1)=x1:=by rw [hx1];exact dD _ ⟨by omega,by omega⟩
    have HX1:=aK hx1;have HC0:=aK c0;clear r1 r2 r3 r4 g0 hg hf hu c0;by_cases c1:u<0
    ·have d1 : decide (u < 0) = true := bD c1
     by_cases c2:x+1<hi
     ·have d2 : decide (x1 ≥ hi) = false := bM (by omega)
      obtain ⟨ad2,e0,hcell2⟩:=dL (cD R1.out).2.2 x1 (by omega) (by show x1<(m.words.length:Int);omega)
      cases e0
      have p3:=bO (show 0≤x1 by omega);have p4:=bO (show x1<(m.words.length:Int) by omega);obtain ⟨n,hn⟩: ∃n,rd m.words x1=n:=⟨_,rfl⟩;replace hcell2:wr.cell? (ad.add x1.toNat)=some (.int .i64 n):=by rw [←hn];exact hcell2
      obtain ⟨s,hs⟩: ∃s,jJ m.fields u n=s:=⟨_,rfl⟩;have HS:=aK hs;have HST:=aK (show jV m.words m.fields hi x=if s≤hi - x then s else 0 by unfold jV;rw [HU.out,if_pos c1,if_pos c2,←hx1,hn,hs]);clear hs hn c1 c2;have HFC:=aK (Kd.F_now R3.out);have HB:=aK (bH wr.heap.size wr);have HM1:=aK (bIa HO.out);have hs0:=bEt m.fields u n;rw [HS.out] at hs0;have hs1:=bLr H4.out u n;rw [HS.out] at hs1;obtain ⟨t,ht⟩: ∃t,t=hi - x:=⟨_,rfl⟩;have q2:IntKind.i64.wrap (hi - x)=t:=by rw [ht];exact dD _ ⟨by have:=HC0.out;omega,by omega⟩
      by_cases z0:s=0
      ·have e1 : (s == 0) = true := zH.mpr z0
       have hz:jV m.words m.fields hi x=0:=by rw [HST.out];split<;>omega
       rw [if_pos hz] at H;have HR:=aK (bE H);clear H hz ht hs0 hs1 z0 hl1 hl2 hx1 hx;go_wp2;refine sT 15 (S:=fun w'=>Aside0 (Below wr.heap.size wr w')∧Aside0 (MV w' g ({m with begins:=acc}))∧w'.cell? (⟨g,0,none⟩)=some (.slice (some ad) m.words.length cW)∧w'.cell? (⟨g,5,none⟩)=some (.slice AF m.fields.length cF)∧w'.cell? (ad.add x.toNat)=some (.int .i64 u)∧w'.cell? (⟨g,6,none⟩)=some (.slice AB acc.length cB)) (ds:=[]) ⟨⟨bG HB.out⟩,⟨dH HM1.out (bG (bH _ _))⟩,(by go_simp),(by go_simp),(by go_simp),(by go_simp)⟩ (fun hHeld=>?_);refine cJ 0 ?_;refine cJ 1 ?_;refine cJ 2 ?_;refine cJ 4 ?_;refine cJ 5 ?_;refine cJ 6 ?_;refine cJ 7 ?_;refine cJ 9 ?_;refine cJ 12 ?_;refine tS 3 39 (lA 15 4863) rfl rfl (by kernel_rfl) hHeld pK ?_;refine tS 8 44 (lA 15 5119) rfl rfl (by kernel_rfl) hHeld pK ?_;refine cJ 10 ?_;refine tS 11 47 (lA 15 8191) rfl rfl (by kernel_rfl) hHeld pK ?_;refine oS 13 49 (lA 15 16383) rfl rfl (fun K hK=>?_);refine gO Try.func100 #[.slice AF m.fields.length cF,.int .i64 u,.int .i64 n] ?_;(with_reducible refine (rX AF cF m.fields u n s _ (cG HFC.out hHeld.1.out) HF.out H4.out HS.out).mono ?_);rintro e w3 ⟨rfl,hb3⟩;refine ⟨_,rfl,?_⟩;refine hK.out _ _ ⟨⟨bK hHeld.1.out hb3⟩,⟨dH hHeld.2.1.out hb3⟩,(bNv hb3 hHeld.2.2)⟩ (fun hHeld=>?_);clear hK K;refine nS 49 ?_;refine cJ 14 ?_;refine gT (by kernel_rfl) ?_;go_wp2;go_ret;exact ⟨by rw [←HR.out];rfl,by rw [←HR.out];exact vJ HO.out hHeld.1.out,rQ HB0.out (dO HBs.out HB0.out.size) hHeld.1.out⟩
      have e1:(s==0)=false:=xP.mpr z0
      by_cases z1:s>t
      ·have e2 : decide (s > t) = true := bD z1
       have hz:jV m.words m.fields hi x=0:=by rw [HST.out];split<;>omega
       rw [if_pos hz] at H;have HR:=aK (bE H);clear H hz ht hs0 hs1 z0 z1 hl1 hl2 hx1 hx;go_wp2;refine sT 15 (S:=fun w'=>Aside0 (Below wr.heap.size wr w')∧Aside0 (MV w' g ({m with begins:=acc}))∧w'.cell? (⟨g,0,none⟩)=some (.slice (some ad) m.words.length cW)∧w'.cell? (⟨g,5,none⟩)=some (.slice AF m.fields.length cF)∧w'.cell? (ad.add x.toNat)=some (.int .i64 u)∧w'.cell? (⟨g,6,none⟩)=some (.slice AB acc.length cB)) (ds:=[]) ⟨⟨bG HB.out⟩,⟨dH HM1.out (bG (bH _ _))⟩,(by go_simp),(by go_simp),(by go_simp),(by go_simp)⟩ (fun hHeld=>?_);refine cJ 0 ?_;refine cJ 1 ?_;refine cJ 2 ?_;refine cJ 4 ?_;refine cJ 5 ?_;refine cJ 6 ?_;refine cJ 7 ?_;refine cJ 9 ?_;refine cJ 12 ?_;refine tS 3 39 (lA 15 4863) rfl rfl (by kernel_rfl) hHeld pK ?_;refine tS 8 44 (lA 15 5119) rfl rfl (by kernel_rfl) hHeld pK ?_;refine cJ 10 ?_;refine tS 11 47 (lA 15 8191) rfl rfl (by kernel_rfl) hHeld pK ?_;refine oS 13 49 (lA 15 16383) rfl rfl (fun K hK=>?_);refine gO Try.func100 #[.slice AF m.fields.length cF,.int .i64 u,.int .i64 n] ?_;(with_reducible refine (rX AF cF m.fields u n s _ (cG HFC.out hHeld.1.out) HF.out H4.out HS.out).mono ?_);rintro e w3 ⟨rfl,hb3⟩;refine ⟨_,rfl,?_⟩;refine hK.out _ _ ⟨⟨bK hHeld.1.out hb3⟩,⟨dH hHeld.2.1.out hb3⟩,(bNv hb3 hHeld.2.2)⟩ (fun hHeld=>?_);clear hK K;refine nS 49 ?_;refine cJ 14 ?_;refine gT (by kernel_rfl) ?_;go_wp2;go_ret;exact ⟨by rw [←HR.out];rfl,by rw [←HR.out];exact vJ HO.out hHeld.1.out,rQ HB0.out (dO HBs.out HB0.out.size) hHeld.1.out⟩
      ·have e2 : decide (s > t) = false := bM z1
       have hz:jV m.words m.fields hi x=s:=by rw [HST.out,if_pos (by omega)]
       rw [hz,if_neg z0,←HX1.out] at H;obtain ⟨x2,hx2⟩: ∃x2,x2=x+s:=⟨_,rfl⟩;have q3:IntKind.i64.wrap (x+s)=x2:=by rw [hx2];exact dD _ ⟨by omega,by omega⟩
       rw [←hx2] at H;have H':=aK H;have HX2:=aK hx2;have HT:=aK ht;have HZ:=aK (show 0<s∧s≤t by omega);clear H ht hs0 hs1 z0 z1 hl1 hl2 hz hx2 hx1 hx;go_wp2;refine sT 15 (S:=fun w'=>Aside0 (Below wr.heap.size wr w')∧Aside0 (MV w' g ({m with begins:=acc}))∧w'.cell? (⟨g,0,none⟩)=some (.slice (some ad) m.words.length cW)∧w'.cell? (⟨g,5,none⟩)=some (.slice AF m.fields.length cF)∧w'.cell? (ad.add x.toNat)=some (.int .i64 u)∧w'.cell? (⟨g,6,none⟩)=some (.slice AB acc.length cB)) (ds:=[]) ⟨⟨bG HB.out⟩,⟨dH HM1.out (bG (bH _ _))⟩,(by go_simp),(by go_simp),(by go_simp),(by go_simp)⟩ (fun hHeld=>?_);refine cJ 0 ?_;refine cJ 1 ?_;refine cJ 2 ?_;refine cJ 4 ?_;refine cJ 5 ?_;refine cJ 6 ?_;refine cJ 7 ?_;refine cJ 9 ?_;refine cJ 12 ?_;refine tS 3 39 (lA 15 4863) rfl rfl (by kernel_rfl) hHeld pK ?_;refine tS 8 44 (lA 15 5119) rfl rfl (by kernel_rfl) hHeld pK ?_;refine cJ 10 ?_;refine tS 11 47 (lA 15 8191) rfl rfl (by kernel_rfl) hHeld pK ?_;refine oS 13 49 (lA 15 16383) rfl rfl (fun K hK=>?_);refine gO Try.func100 #[.slice AF m.fields.length cF,.int .i64 u,.int .i64 n] ?_;(with_reducible refine (rX AF cF m.fields u n s _ (cG HFC.out hHeld.1.out) HF.out H4.out HS.out).mono ?_);rintro e w3 ⟨rfl,hb3⟩;refine ⟨_,rfl,?_⟩;refine hK.out _ _ ⟨⟨bK hHeld.1.out hb3⟩,⟨dH hHeld.2.1.out hb3⟩,(bNv hb3 hHeld.2.2)⟩ (fun hHeld=>?_);clear hK K;refine nS 49 ?_;refine cJ 14 ?_;refine gT (by kernel_rfl) ?_;have HB2:=hHeld.1;have k6:=hHeld.2.2.2.2.2;clear hHeld HB HM1 HFC HV;have GN:=aK ((HB2.out.block g (dN G0.out)).trans G0.out);have HS3:=aK (show b≤w3.heap.size from dO (dO HBs.out HB0.out.size) HB2.out.size)
       go_wp2_with ((with_reducible refine jK (b:= .append) (xs:= #[.tmp 63,.tmp 66]) rfl ?_);at_builtin;refine sE (Kd.int .i64) (w0:=w) b rfl (.tmp 63) (.tmp 66) 23 3 (.int .i64 0) 8 rfl Try.underlying23 qT rfl (by decide) (by omega) (.slice AB acc.length cB) acc x1 [.int .i64 x1] (fun k=>(k≠g∧some k≠(Value.slice (some ad) m.words.length cW).ownBlock)∧some k≠(Value.slice AC m.cards.length cC).ownBlock) (fun _=>False) rfl rfl ?aP (fun _ hk=>hk.elim) ?aF ?aO ?aB ?aS ?aL ?_;(case aP=>exact rfl);(case aB=>exact rQ HB0.out (dO HBs.out HB0.out.size) HB2.out);(case aF=>exact fun k hk=>⟨⟨by have:=dN GN.out;omega,fun e=>by have:=pM (bZ R1.out HB2.out) k e.symm;omega⟩,fun e=>by have:=pM (bZ R2.out HB2.out) k e.symm;omega⟩);(case aO=>exact bZ R4.out HB2.out);(case aS=>exact HS3.out);(case aL=>have:=HL.out;have:=H3.out;have:=H1.out;have:=H2.out;have:=HC0.out;omega);intro v67 w5 ho hbn hgr hat;obtain ⟨AN,cN,rfl⟩:=cL ho;have HMO:=aK (bJq GN.out HGb.out HF.out (bZ R1.out HB2.out) (bZ R2.out HB2.out) (Kd.F_below R3.out HB2.out) (bZ R4.out HB2.out) ho hgr hat);have HBN:=aK (show Below b w (w5.setCell ⟨g,6,none⟩ (.slice AN (acc++[x1]).length cN)) from hbn.setCell HGb.out _);have GW:=aK (nE GN.out hgr (Kd.R_away (bZ R4.out HB2.out) (fun _ hk=>hk.1.1)));have n6:=(bA GW.out 6).trans rfl;have nf6:=bL GW.out 6;clear ho hbn hgr hat)
       go_roundw
       case rel=>exact ⟨k1,x2,acc++[x1],rfl,H',⟨by have:=HX2.out;have:=HZ.out;have:=HX.out;omega⟩,⟨by have:=HL.out;have:=HX2.out;have:=HZ.out;have:=HX.out;rw [cH,rR];omega⟩,by rw [show acc.length+1=(acc++[x1]).length by simp];exact HMO,by rw [show acc.length+1=(acc++[x1]).length by simp];exact HBN⟩
       case measure=>have:=HX2.out;have:=HZ.out;have:=HT.out;show (hi - x2).toNat<(hi - x).toNat;omega
     ·have d2 : decide (x1 ≥ hi) = true := bD (by omega)
      have hz:jV m.words m.fields hi x=0:=by unfold jV;rw [HU.out,if_pos c1,if_neg c2]
      rw [if_pos hz] at H;have HR:=aK (bE H);clear H hz c1 c2 hx1 hx hl1 hl2;go_wp2;go_ret;exact ⟨by rw [←HR.out];rfl,by rw [←HR.out];exact HO.out,HB0.out⟩
    ·have d1 : decide (u < 0) = false := bM c1
     obtain ⟨s,hs⟩: ∃s,jJ m.fields u 0=s:=⟨_,rfl⟩;have HS:=aK hs;have HST:=aK (show jV m.words m.fields hi x=if s≤hi - x then s else 0 by unfold jV;rw [HU.out,if_neg c1,hs]);clear hs c1;have HFC:=aK (Kd.F_now R3.out);have HB:=aK (bH wr.heap.size wr);have HM1:=aK (bIa HO.out);have hs0:=bEt m.fields u 0;rw [HS.out] at hs0;have hs1:=bLr H4.out u 0;rw [HS.out] at hs1;obtain ⟨t,ht⟩: ∃t,t=hi - x:=⟨_,rfl⟩;have q2:IntKind.i64.wrap (hi - x)=t:=by rw [ht];exact dD _ ⟨by have:=HC0.out;omega,by omega⟩
     by_cases z0:s=0
     ·have e1 : (s == 0) = true := zH.mpr z0
      have hz:jV m.words m.fields hi x=0:=by rw [HST.out];split<;>omega
      rw [if_pos hz] at H;have HR:=aK (bE H);clear H hz ht hs0 hs1 z0 hl1 hl2 hx1 hx;go_wp2;refine sT 15 (S:=fun w'=>Aside0 (Below wr.heap.size wr w')∧Aside0 (MV w' g ({m with begins:=acc}))∧w'.cell? (⟨g,0,none⟩)=some (.slice (some ad) m.words.length cW)∧w'.cell? (⟨g,5,none⟩)=some (.slice AF m.fields.length cF)∧w'.cell? (ad.add x.toNat)=some (.int .i64 u)∧w'.cell? (⟨g,6,none⟩)=some (.slice AB acc.length cB)) (ds:=[]) ⟨⟨bG HB.out⟩,⟨dH HM1.out (bG (bH _ _))⟩,(by go_simp),(by go_simp),(by go_simp),(by go_simp)⟩ (fun hHeld=>?_);refine cJ 0 ?_;refine cJ 1 ?_;refine cJ 2 ?_;refine cJ 4 ?_;refine cJ 5 ?_;refine cJ 6 ?_;refine cJ 7 ?_;refine cJ 9 ?_;refine cJ 12 ?_;refine tS 3 39 (lA 15 4863) rfl rfl (by kernel_rfl) hHeld pK ?_;refine tS 8 44 (lA 15 5119) rfl rfl (by kernel_rfl) hHeld pK ?_;refine cJ 10 ?_;refine tS 11 47 (lA 15 8191) rfl rfl (by kernel_rfl) hHeld pK ?_;refine oS 13 49 (lA 15 16383) rfl rfl (fun K hK=>?_);refine gO Try.func100 #[.slice AF m.fields.length cF,.int .i64 u,.int .i64 0] ?_;(with_reducible refine (rX AF cF m.fields u 0 s _ (cG HFC.out hHeld.1.out) HF.out H4.out HS.out).mono ?_);rintro e w3 ⟨rfl,hb3⟩;refine ⟨_,rfl,?_⟩;refine hK.out _ _ ⟨⟨bK hHeld.1.out hb3⟩,⟨dH hHeld.2.1.out hb3⟩,(bNv hb3 hHeld.2.2)⟩ (fun hHeld=>?_);clear hK K;refine nS 49 ?_;refine cJ 14 ?_;refine gT (by kernel_rfl) ?_;go_wp2;go_ret;exact ⟨by rw [←HR.out];rfl,by rw [←HR.out];exact vJ HO.out hHeld.1.out,rQ HB0.out (dO HBs.out HB0.out.size) hHeld.1.out⟩
     have e1:(s==0)=false:=xP.mpr z0
     by_cases z1:s>t
     ·have e2 : decide (s > t) = true := bD z1
      have hz:jV m.words m.fields hi x=0:=by rw [HST.out];split<;>omega
      rw [if_pos hz] at H;have HR:=aK (bE H);clear H hz ht hs0 hs1 z0 z1 hl1 hl2 hx1 hx;go_wp2;refine sT 15 (S:=fun w'=>Aside0 (Below wr.heap.size wr w')∧Aside0 (MV w' g ({m with begins:=acc}))∧w'.cell? (⟨g,0,none⟩)=some (.slice (some ad) m.words.length cW)∧w'.cell? (⟨g,5,none⟩)=some (.slice AF m.fields.length cF)∧w'.cell? (ad.add x.toNat)=some (.int .i64 u)∧w'.cell? (⟨g,6,none⟩)=some (.slice AB acc.length cB)) (ds:=[]) ⟨⟨bG HB.out⟩,⟨dH HM1.out (bG (bH _ _))⟩,(by go_simp),(by go_simp),(by go_simp),(by go_simp)⟩ (fun hHeld=>?_);refine cJ 0 ?_;refine cJ 1 ?_;refine cJ 2 ?_;refine cJ 4 ?_;refine cJ 5 ?_;refine cJ 6 ?_;refine cJ 7 ?_;refine cJ 9 ?_;refine cJ 12 ?_;refine tS 3 39 (lA 15 4863) rfl rfl (by kernel_rfl) hHeld pK ?_;refine tS 8 44 (lA 15 5119) rfl rfl (by kernel_rfl) hHeld pK ?_;refine cJ 10 ?_;refine tS 11 47 (lA 15 8191) rfl rfl (by kernel_rfl) hHeld pK ?_;refine oS 13 49 (lA 15 16383) rfl rfl (fun K hK=>?_);refine gO Try.func100 #[.slice AF m.fields.length cF,.int .i64 u,.int .i64 0] ?_;(with_reducible refine (rX AF cF m.fields u 0 s _ (cG HFC.out hHeld.1.out) HF.out H4.out HS.out).mono ?_);rintro e w3 ⟨rfl,hb3⟩;refine ⟨_,rfl,?_⟩;refine hK.out _ _ ⟨⟨bK hHeld.1.out hb3⟩,⟨dH hHeld.2.1.out hb3⟩,(bNv hb3 hHeld.2.2)⟩ (fun hHeld=>?_);clear hK K;refine nS 49 ?_;refine cJ 14 ?_;refine gT (by kernel_rfl) ?_;go_wp2;go_ret;exact ⟨by rw [←HR.out];rfl,by rw [←HR.out];exact vJ HO.out hHeld.1.out,rQ HB0.out (dO HBs.out HB0.out.size) hHeld.1.out⟩
     ·have e2 : decide (s > t) = false := bM z1
      have hz:jV m.words m.fields hi x=s:=by rw [HST.out,if_pos (by omega)]
      rw [hz,if_neg z0,←HX1.out] at H;obtain ⟨x2,hx2⟩: ∃x2,x2=x+s:=⟨_,rfl⟩;have q3:IntKind.i64.wrap (x+s)=x2:=by rw [hx2];exact dD _ ⟨by omega,by omega⟩
      rw [←hx2] at H;have H':=aK H;have HX2:=aK hx2;have HT:=aK ht;have HZ:=aK (show 0<s∧s≤t by omega);clear H ht hs0 hs1 z0 z1 hl1 hl2 hz hx2 hx1 hx;go_wp2;refine sT 15 (S:=fun w'=>Aside0 (Below wr.heap.size wr w')∧Aside0 (MV w' g ({m with begins:=acc}))∧w'.cell? (⟨g,0,none⟩)=some (.slice (some ad) m.words.length cW)∧w'.cell? (⟨g,5,none⟩)=some (.slice AF m.fields.length cF)∧w'.cell? (ad.add x.toNat)=some (.int .i64 u)∧w'.cell? (⟨g,6,none⟩)=some (.slice AB acc.length cB)) (ds:=[]) ⟨⟨bG HB.out⟩,⟨dH HM1.out (bG (bH _ _))⟩,(by go_simp),(by go_simp),(by go_simp),(by go_simp)⟩ (fun hHeld=>?_);refine cJ 0 ?_;refine cJ 1 ?_;refine cJ 2 ?_;refine cJ 4 ?_;refine cJ 5 ?_;refine cJ 6 ?_;refine cJ 7 ?_;refine cJ 9 ?_;refine cJ 12 ?_;refine tS 3 39 (lA 15 4863) rfl rfl (by kernel_rfl) hHeld pK ?_;refine tS 8 44 (lA 15 5119) rfl rfl (by kernel_rfl) hHeld pK ?_;refine cJ 10 ?_;refine tS 11 47 (lA 15 8191) rfl rfl (by kernel_rfl) hHeld pK ?_;refine oS 13 49 (lA 15 16383) rfl rfl (fun K hK=>?_);refine gO Try.func100 #[.slice AF m.fields.length cF,.int .i64 u,.int .i64 0] ?_;(with_reducible refine (rX AF cF m.fields u 0 s _ (cG HFC.out hHeld.1.out) HF.out H4.out HS.out).mono ?_);rintro e w3 ⟨rfl,hb3⟩;refine ⟨_,rfl,?_⟩;refine hK.out _ _ ⟨⟨bK hHeld.1.out hb3⟩,⟨dH hHeld.2.1.out hb3⟩,(bNv hb3 hHeld.2.2)⟩ (fun hHeld=>?_);clear hK K;refine nS 49 ?_;refine cJ 14 ?_;refine gT (by kernel_rfl) ?_;have HB2:=hHeld.1;have k6:=hHeld.2.2.2.2.2;clear hHeld HB HM1 HFC HV;have GN:=aK ((HB2.out.block g (dN G0.out)).trans G0.out);have HS3:=aK (show b≤w3.heap.size from dO (dO HBs.out HB0.out.size) HB2.out.size)
      go_wp2_with ((with_reducible refine jK (b:= .append) (xs:= #[.tmp 63,.tmp 66]) rfl ?_);at_builtin;refine sE (Kd.int .i64) (w0:=w) b rfl (.tmp 63) (.tmp 66) 23 3 (.int .i64 0) 8 rfl Try.underlying23 qT rfl (by decide) (by omega) (.slice AB acc.length cB) acc x1 [.int .i64 x1] (fun k=>(k≠g∧some k≠(Value.slice (some ad) m.words.length cW).ownBlock)∧some k≠(Value.slice AC m.cards.length cC).ownBlock) (fun _=>False) rfl rfl ?aP (fun _ hk=>hk.elim) ?aF ?aO ?aB ?aS ?aL ?_;(case aP=>exact rfl);(case aB=>exact rQ HB0.out (dO HBs.out HB0.out.size) HB2.out);(case aF=>exact fun k hk=>⟨⟨by have:=dN GN.out;omega,fun e=>by have:=pM (bZ R1.out HB2.out) k e.symm;omega⟩,fun e=>by have:=pM (bZ R2.out HB2.out) k e.symm;omega⟩);(case aO=>exact bZ R4.out HB2.out);(case aS=>exact HS3.out);(case aL=>have:=HL.out;have:=H3.out;have:=H1.out;have:=H2.out;have:=HC0.out;omega);intro v67 w5 ho hbn hgr hat;obtain ⟨AN,cN,rfl⟩:=cL ho;have HMO:=aK (bJq GN.out HGb.out HF.out (bZ R1.out HB2.out) (bZ R2.out HB2.out) (Kd.F_below R3.out HB2.out) (bZ R4.out HB2.out) ho hgr hat);have HBN:=aK (show Below b w (w5.setCell ⟨g,6,none⟩ (.slice AN (acc++[x1]).length cN)) from hbn.setCell HGb.out _);have GW:=aK (nE GN.out hgr (Kd.R_away (bZ R4.out HB2.out) (fun _ hk=>hk.1.1)));have n6:=(bA GW.out 6).trans rfl;have nf6:=bL GW.out 6;clear ho hbn hgr hat)
      go_roundw
      case rel=>exact ⟨k1,x2,acc++[x1],rfl,H',⟨by have:=HX2.out;have:=HZ.out;have:=HX.out;omega⟩,⟨by have:=HL.out;have:=HX2.out;have:=HZ.out;have:=HX.out;rw [cH,rR];omega⟩,by rw [show acc.length+1=(acc++[x1]).length by simp];exact HMO,by rw [show acc.length+1=(acc++[x1]).length by simp];exact HBN⟩
      case measure=>have:=HX2.out;have:=HZ.out;have:=HT.out;show (hi - x2).toNat<(hi - x).toNat;omega
   ·rw [if_neg c0] at H
    have d0:decide (x<hi)=false:=bM c0
    have HR:=aK (bE H);clear H c0;go_wp2;go_ret;exact ⟨by rw [←HR.out];rfl,by rw [←HR.out];exact HO.out,HB0.out⟩
theorem rN (g:Nat) (at_:Int) (w:World):
  Calls Try.prog 69 #[.pointer (some ⟨g,0,none⟩),.int .i64 at_] w fun e w'=>e= .returned (bHc g at_)∧Below w.heap.size w w':=by
 unfold bHc;go_enter Try.func69,Try.ntmps69;go_wp2;refine fM (jY rfl _ _ w.heap.size 102 #[.pointer (some ⟨g,0,none⟩),.int .i64 at_] (0,0) _ rfl (kU _ _) Try.underlying102 rfl (by kernel_rfl)) rfl ?_;exact ⟨rfl,bJ (bH _ _) _⟩
def qR (a0:Int):Option (Bool):=if a0≥(-128) then (some (decide (a0≤127))) else (some false)
theorem zV (a0:Int) (r:Bool) (w:World) (h:qR a0=some r):
  Calls Try.prog 101 #[.int .i64 a0] w fun e w'=>e= .returned (.bool r)∧Drawn0 w w':=by
 have H:(if a0≥(-128) then (some (decide (a0≤127))) else (some false))=some r:=h
 clear h;by_cases c2:a0≥(-128)
 ·rw [if_pos c2] at H
  have c2b0:decide ((-128)≤a0)=true:=bD c2
  clear c2;obtain rfl:=bE H;go_enter Try.func101,Try.ntmps101;go_wp2;go_ret;exact ⟨nR,sF⟩
 ·rw [if_neg c2] at H
  have c2b0:decide ((-128)≤a0)=false:=bM c2
  clear c2;obtain rfl:=bE H;go_enter Try.func101,Try.ntmps101;go_wp2;go_ret;exact ⟨nR,sF⟩
def nW (m:Mm) (at_:Int):Option Int:=(nG m at_).bind fun c=>
  if c<0 then (if at_<m.words.length then some (rd m.words at_) else none)
  else if c<m.fields.length∧m.fields.length≤281474976710656 then some ((bIc m.fields c).length:Int) else none
theorem tZ (g:Nat) (m:Mm) (at_ r:Int) (w:World) (hm:MV w g m) (h:nW m at_=some r):
  Calls Try.prog 84 #[bHc g at_] w fun e w'=>e= .returned (.int .i64 r)∧Below w.heap.size w w':=by
 unfold nW at h;obtain ⟨c,hc,h⟩:=Option.bind_eq_some_iff.mp h
 have h1:1≤at_:=by
  unfold nG at hc;split at hc
  case isTrue hb=>exact hb.1
  case isFalse=>simp at hc
 have HC:=aK hc;have HM:=aK hm;clear hc hm;by_cases c1:c<0
 ·rw [if_pos c1] at h
  have d1:decide (c<0)=true:=bD c1
  split at h
  case isFalse=>simp at h
  case isTrue h2=>
  have HR:=aK (bE h);clear h;unfold bHc;go_enter Try.func84,Try.ntmps84
  go_wp2_with fail
  go_at_call 109;refine (kQ g m at_ c _ (dH HM.out (bJ (bH _ _) _)) HC.out).mono ?_;rintro e w1 ⟨rfl,hb⟩;have HB:=aK (bK (bJ (bH _ _) _) hb:Below w.heap.size w w1);have hbx:=bCs hb;obtain ⟨AW,cW,AC,cC,AF,cF,AB,cB,h0,hW,_,_,_,_⟩:=dH HM.out HB.out;have p1:=bO (show 0≤at_ by omega);have p2:=bO (show at_<(m.words.length:Int) by omega);obtain ⟨ad,e0,hx⟩:=dL hW at_ (by omega) (by omega)
  cases e0
  have b0:=(bA hbx 0).trans rfl;have b1:=(bA hbx 1).trans rfl;have g0:=(bA h0 0).trans rfl;clear hW h1 h2 c1 hbx h0 hb;go_wp2
  go_quiet (fail)
  go_wp2;go_ret;exact ⟨by rw [←HR.out];rfl,bI HB.out _⟩
 ·rw [if_neg c1] at h
  have d1:decide (c<0)=false:=bM c1
  split at h
  case isFalse=>simp at h
  case isTrue h2=>
  have HR:=aK (bE h);clear h;unfold bHc;go_enter Try.func84,Try.ntmps84
  go_wp2_with fail
  go_at_call 109;refine (kQ g m at_ c _ (dH HM.out (bJ (bH _ _) _)) HC.out).mono ?_;rintro e w1 ⟨rfl,hb⟩;have HB:=aK (bK (bJ (bH _ _) _) hb:Below w.heap.size w w1);have hbx:=bCs hb;have HM1:=aK (dH HM.out HB.out);obtain ⟨AW,cW,AC,cC,AF,cF,AB,cB,h0,_,_,hF,_,_⟩:=HM1.out;have p1:=bO (show 0≤c by omega);have p2:=bO (show c<(m.fields.length:Int) by omega);obtain ⟨ad,Af,cf,e0,hx,_⟩:=bOp hF c (by omega) (by omega)
  cases e0
  have b0:=(bA hbx 0).trans rfl;have b1:=(bA hbx 1).trans rfl;have g5:=(bA h0 5).trans rfl;clear hF h1 h2 c1 hbx h0 hb;go_wp2;refine sT 11 (S:=fun w'=>Aside0 (Below w.heap.size w w')∧Aside0 (MV w' g (m))∧w'.cell? (⟨w.heap.size,0,none⟩)=some (.pointer (some ⟨g,0,none⟩))∧w'.cell? (⟨w.heap.size,1,none⟩)=some (.int .i64 at_)∧w'.cell? (⟨g,5,none⟩)=some (.slice (some ad) m.fields.length cF)∧w'.cell? (ad.add c.toNat)=some (.slice Af (bIc m.fields c).length cf)) (ds:=[]) ⟨⟨bG HB.out⟩,⟨dH HM1.out (bG (bH _ _))⟩,(by go_simp),(by go_simp),(by go_simp),(by go_simp)⟩ (fun hHeld=>?_);refine pS 0 16 #[true,false,false,false,false,false,false,false,false,false,false] ?_;refine tS 1 17 #[true,true,false,false,false,false,false,false,false,false,false] rfl rfl (by kernel_rfl) hHeld pK ?_;refine pS 2 18 #[true,true,true,false,false,false,false,false,false,false,false] ?_;refine pS 3 19 #[true,true,true,true,false,false,false,false,false,false,false] ?_;refine tS 4 20 #[true,true,true,true,true,false,false,false,false,false,false] rfl rfl (by kernel_rfl) hHeld pK ?_;refine tS 5 21 #[true,true,true,true,true,true,false,false,false,false,false] rfl rfl (by kernel_rfl) hHeld pK ?_;refine oS 6 22 #[true,true,true,true,true,true,true,false,false,false,false] rfl rfl (fun K hK=>?_);refine gO Try.func109 #[bHc g at_] ?_;(with_reducible refine (kQ g m at_ c _ hHeld.2.1.out HC.out).mono ?_);rintro e w3 ⟨rfl,hb3⟩;refine ⟨_,rfl,?_⟩;refine hK.out _ _ ⟨⟨bK hHeld.1.out hb3⟩,⟨dH hHeld.2.1.out hb3⟩,(bNv hb3 hHeld.2.2)⟩ (fun hHeld=>?_);clear hK K;refine nS 22 ?_;refine pS 7 23 #[true,true,true,true,true,true,true,true,false,false,false] ?_;refine tS 8 24 #[true,true,true,true,true,true,true,true,true,false,false] rfl rfl (by kernel_rfl) hHeld pK ?_;refine pS 9 25 #[true,true,true,true,true,true,true,true,true,true,false] ?_;refine pS 10 2 #[true,true,true,true,true,true,true,true,true,true,true] ?_;refine gT (by kernel_rfl) ?_;go_wp2;go_ret;exact ⟨by rw [←HR.out];rfl,hHeld.1.out⟩
def kZ (m:Mm) (at_:Int):Option Int:=(nG m at_).bind fun c=>some (if c<0 then at_+1 else at_)
theorem bBl {m:Mm} {at_ c:Int} (hc:nG m at_=some c):1≤at_∧at_≤m.words.length∧m.words.length≤281474976710656:=by
 unfold nG at hc
 split at hc
 case isTrue hb=>exact hb
 case isFalse=>simp at hc
theorem kA (g:Nat) (m:Mm) (at_ r:Int) (w:World) (hm:MV w g m) (h:kZ m at_=some r):
  Calls Try.prog 86 #[bHc g at_] w fun e w'=>e= .returned (.int .i64 r)∧Below w.heap.size w w':=by
 unfold kZ at h;obtain ⟨c,hc,h⟩:=Option.bind_eq_some_iff.mp h;have hl:=bBl hc;have HR:=aK (bE h);have HC:=aK hc;have HM:=aK hm;obtain ⟨j,hj⟩: ∃j,j=at_+1:=⟨_,rfl⟩;have q:IntKind.i64.wrap (at_+1)=j:=by rw [hj];exact dD _ ⟨by omega,by omega⟩
 rw [←hj] at HR;clear hc hm h hl hj;by_cases c1:c<0
 ·rw [if_pos c1] at HR
  have d1:decide (c<0)=true:=bD c1
  clear c1;unfold bHc;go_enter Try.func86,Try.ntmps86
  go_wp2_with fail
  go_at_call 109;refine (kQ g m at_ c _ (dH HM.out (bJ (bH _ _) _)) HC.out).mono ?_;rintro e w1 ⟨rfl,hb⟩;have HB:=aK (bK (bJ (bH _ _) _) hb:Below w.heap.size w w1);have hbx:=bCs hb;have b1:=(bA hbx 1).trans rfl;clear hbx hb;go_wp2;go_ret;exact ⟨by rw [←HR.out];rfl,HB.out⟩
 ·rw [if_neg c1] at HR
  have d1:decide (c<0)=false:=bM c1
  clear c1;unfold bHc;go_enter Try.func86,Try.ntmps86
  go_wp2_with fail
  go_at_call 109;refine (kQ g m at_ c _ (dH HM.out (bJ (bH _ _) _)) HC.out).mono ?_;rintro e w1 ⟨rfl,hb⟩;have HB:=aK (bK (bJ (bH _ _) _) hb:Below w.heap.size w w1);have hbx:=bCs hb;have b1:=(bA hbx 1).trans rfl;clear hbx hb;go_wp2;go_ret;exact ⟨by rw [←HR.out];rfl,HB.out⟩
def tY (m:Mm) (at_:Int):Option Int:=(kZ m at_).bind fun a=>(nW m at_).bind fun n=>some (wrap64 (a - (at_ - 1)+n))
theorem bBj {m:Mm} {at_ a:Int} (h:kZ m at_=some a):1≤at_∧at_≤m.words.length∧m.words.length≤281474976710656∧(a=at_∨a=at_+1):=by
 unfold kZ at h;obtain ⟨c,hc,h⟩:=Option.bind_eq_some_iff.mp h;have t1:=bBl hc;have t2:=bE h;refine ⟨t1.1,t1.2.1,t1.2.2,?_⟩
 split at t2<;>omega
theorem bFc (g:Nat) (m:Mm) (at_ r:Int) (w:World) (hm:MV w g m) (h:tY m at_=some r):
  Calls Try.prog 106 #[bHc g at_] w fun e w'=>e= .returned (.int .i64 r)∧Below w.heap.size w w':=by
 unfold tY at h;obtain ⟨a,ha,h⟩:=Option.bind_eq_some_iff.mp h;obtain ⟨n,hn,h⟩:=Option.bind_eq_some_iff.mp h;obtain ⟨l1,l2,l3,l4⟩:=bBj ha;have HFi:=aK ha;have HN:=aK hn;have HR:=aK (bE h);obtain ⟨j,hj⟩: ∃j,j=at_ - 1:=⟨_,rfl⟩;have q1:IntKind.i64.wrap (at_ - 1)=j:=by rw [hj];exact dD _ ⟨by omega,by omega⟩
 obtain ⟨d,hd⟩: ∃d,d=a - j:=⟨_,rfl⟩;have q2:IntKind.i64.wrap (a - j)=d:=by rw [hd];exact dD _ ⟨by omega,by omega⟩
 rw [←hj,←hd] at HR;have HM1:=aK (dH hm (bJ (bH _ _) (.cells #[.pointer (some ⟨g,0,none⟩),.int .i64 at_] 102 (0,0))));have HB:=aK (bJ (bH w.heap.size w) (.cells #[.pointer (some ⟨g,0,none⟩),.int .i64 at_] 102 (0,0)));have b0:(w.alloc (.cells #[.pointer (some ⟨g,0,none⟩),.int .i64 at_] 102 (0,0))).cell? ⟨w.heap.size,0,none⟩=some (.pointer (some ⟨g,0,none⟩)):=(bA (kU _ _) 0).trans rfl
 have b1:(w.alloc (.cells #[.pointer (some ⟨g,0,none⟩),.int .i64 at_] 102 (0,0))).cell? ⟨w.heap.size,1,none⟩=some (.int .i64 at_):=(bA (kU _ _) 1).trans rfl
 clear ha hn hm h l1 l2 l3 l4 hj hd;unfold bHc;go_enter Try.func106,Try.ntmps106;go_wp2;refine sT 10 (S:=fun w'=>Aside0 (Below w.heap.size w w')∧Aside0 (MV w' g (m))∧w'.cell? (⟨w.heap.size,0,none⟩)=some (.pointer (some ⟨g,0,none⟩))∧w'.cell? (⟨w.heap.size,1,none⟩)=some (.int .i64 at_)) (ds:=[]) ⟨⟨bG HB.out⟩,⟨dH HM1.out (bG (bH _ _))⟩,(by go_simp),(by go_simp)⟩ (fun hHeld=>?_);refine pS 2 5 #[false,false,true,false,false,false,false,false,false,false] ?_;refine tS 0 3 #[true,false,true,false,false,false,false,false,false,false] rfl rfl (by kernel_rfl) hHeld sM ?_;refine tS 3 6 #[true,false,true,true,false,false,false,false,false,false] rfl rfl (by kernel_rfl) hHeld sM ?_;refine pS 4 7 #[true,false,true,true,true,false,false,false,false,false] ?_;refine tS 6 9 #[true,false,true,true,true,false,true,false,false,false] rfl rfl (by kernel_rfl) hHeld sM ?_;refine oS 1 4 #[true,true,true,true,true,false,true,false,false,false] rfl rfl (fun K hK=>?_);refine gO Try.func86 #[bHc g at_] ?_;(with_reducible refine (kA g m at_ a _ hHeld.2.1.out HFi.out).mono ?_);rintro e w3 ⟨rfl,hb3⟩;refine ⟨_,rfl,?_⟩;refine hK.out _ _ ⟨⟨bK hHeld.1.out hb3⟩,⟨dH hHeld.2.1.out hb3⟩,(b7_2 hb3 hHeld.2.2)⟩ (fun hHeld=>?_);clear hK K;refine nS 4 ?_;refine pS 5 8 #[true,true,true,true,true,true,true,false,false,false] ?_;refine oS 7 10 #[true,true,true,true,true,true,true,true,false,false] rfl rfl (fun K hK=>?_);refine gO Try.func84 #[bHc g at_] ?_;(with_reducible refine (tZ g m at_ n _ hHeld.2.1.out HN.out).mono ?_);rintro e w3 ⟨rfl,hb3⟩;refine ⟨_,rfl,?_⟩;refine hK.out _ _ ⟨⟨bK hHeld.1.out hb3⟩,⟨dH hHeld.2.1.out hb3⟩,(b7_2 hb3 hHeld.2.2)⟩ (fun hHeld=>?_);clear hK K;refine nS 10 ?_;refine pS 8 11 #[true,true,true,true,true,true,true,true,true,false] ?_;refine pS 9 2 #[true,true,true,true,true,true,true,true,true,true] ?_;refine gT (by kernel_rfl) ?_;go_wp2;go_ret;exact ⟨by rw [←HR.out];rfl,hHeld.1.out⟩
theorem zJ (A0:Option Addr) (n0 c0:Nat) (a1 a2 a3:Int) (A4:Option Addr) (n4 c4:Nat) (x j c:Int) (w:World) (hj:IntKind.i64.wrap (x - a1)=j) (h:wrap64 (Int.tdiv j 4)=c):
  Calls Try.prog 57 #[.agg #[.slice A0 n0 c0,.int .i64 a1,.int .i64 a2,.int .i64 a3,.slice A4 n4 c4],.int .i64 x] w fun e w'=>e= .returned (.int .i64 c)∧Below w.heap.size w w':=by
 go_enter Try.func57,Try.ntmps57;go_wp2;go_ret;exact ⟨by rw [←h,←mN];rfl,bJ (bH _ _) _⟩
def qH (a0:Int):Option (Bool):=some (a0 !=a0)
theorem pH (a0:Int) (r:Bool) (w:World) (h:qH a0=some r):
  Calls Try.prog 116 #[.int .i64 a0] w fun e w'=>e= .returned (.bool r)∧Drawn0 w w':=by
 have H:(some (a0 !=a0))=some r:=h
 clear h;obtain rfl:=bE H;go_enter Try.func116,Try.ntmps116;go_wp2;go_ret;exact ⟨nR,sF⟩
def pY (a0:Int) (a1:Int):Option (Bool):=(qH a0).bind fun t304=>(if t304=true then ((qH a1).bind fun t305=>(if t305=true then (some (decide (a0<a1))) else (some true))) else (some (decide (a0<a1))))
theorem zE (a0:Int) (a1:Int) (r:Bool) (w:World) (h:pY a0 a1=some r):
  Calls Try.prog 107 #[.int .i64 a0,.int .i64 a1] w fun e w'=>e= .returned (.bool r)∧Drawn0 w w':=by
 have H:((qH a0).bind fun t304=>(if t304=true then ((qH a1).bind fun t305=>(if t305=true then (some (decide (a0<a1))) else (some true))) else (some (decide (a0<a1)))))=some r:=h
 clear h;replace H:=Option.bind_eq_some_iff.mp H;obtain ⟨t304,A30,H⟩:=H;(try dsimp only at H);have A3:=aK A30;clear A30;by_cases c4:t304=true
 ·subst c4
  rw [if_pos rfl] at H;replace H:=Option.bind_eq_some_iff.mp H;obtain ⟨t305,A50,H⟩:=H;(try dsimp only at H);have A5:=aK A50;clear A50;by_cases c6:t305=true
  ·subst c6
   rw [if_pos rfl] at H;obtain rfl:=bE H;go_enter Try.func107,Try.ntmps107
   go_wp2_with (first|((with_reducible refine dG (f:=116) rfl ?_);refine gE (some 6) rfl rfl Try.func116 (by kernel_rfl) rfl #[.int .i64 a0] rfl qD ?_;(with_reducible refine (pH a0 true _ A3.out).mono ?_);rintro e w' ⟨rfl,⟨nd,rfl⟩⟩;refine ⟨_,rfl,?_⟩)|(go_at_call 116;(with_reducible refine (pH a1 true _ A5.out).mono ?_);rintro e w' ⟨rfl,⟨nd,rfl⟩⟩))
   go_ret;exact ⟨nR,sF⟩
  ·replace c6 := Bool.eq_false_iff.mpr c6
   subst c6;rw [if_neg (show¬(false=true) by decide)] at H;obtain rfl:=bE H;go_enter Try.func107,Try.ntmps107
   go_wp2_with (first|((with_reducible refine dG (f:=116) rfl ?_);refine gE (some 6) rfl rfl Try.func116 (by kernel_rfl) rfl #[.int .i64 a0] rfl qD ?_;(with_reducible refine (pH a0 true _ A3.out).mono ?_);rintro e w' ⟨rfl,⟨nd,rfl⟩⟩;refine ⟨_,rfl,?_⟩)|(go_at_call 116;(with_reducible refine (pH a1 false _ A5.out).mono ?_);rintro e w' ⟨rfl,⟨nd,rfl⟩⟩))
   go_ret;exact ⟨nR,sF⟩
 ·replace c4 := Bool.eq_false_iff.mpr c4
  subst c4;rw [if_neg (show¬(false=true) by decide)] at H;obtain rfl:=bE H;go_enter Try.func107,Try.ntmps107
  go_wp2_with (first|((with_reducible refine dG (f:=116) rfl ?_);refine gE (some 6) rfl rfl Try.func116 (by kernel_rfl) rfl #[.int .i64 a0] rfl qD ?_;(with_reducible refine (pH a0 false _ A3.out).mono ?_);rintro e w' ⟨rfl,⟨nd,rfl⟩⟩;refine ⟨_,rfl,?_⟩))
  go_ret;exact ⟨nR,sF⟩
def rK (a0:Int):Option (Bool):=some (a0 !=a0)
theorem rL (a0:Int) (r:Bool) (w:World) (h:rK a0=some r):
  Calls Try.prog 108 #[.int .i64 a0] w fun e w'=>e= .returned (.bool r)∧Drawn0 w w':=by
 have H:(some (a0 !=a0))=some r:=h
 clear h;obtain rfl:=bE H;go_enter Try.func108,Try.ntmps108;go_wp2;go_ret;exact ⟨nR,sF⟩
def dQ:Nat→List Int→Int→Int→Int→Int→Option (Int×Bool)
  |0,_,_,_,_,_=>none
  |k+1,x0,x1,x6,x7,x8=>if x7<x8 then (if 0≤(wrap64 ((IntKind.u64.wrap (wrap64 (x7+x8)))/2)) then (if (wrap64 ((IntKind.u64.wrap (wrap64 (x7+x8)))/2))<(x0.length:Int) then ((pY (rd x0 (wrap64 ((IntKind.u64.wrap (wrap64 (x7+x8)))/2))) x1).bind fun t307=>(if t307=true then (dQ k x0 x1 x6 (wrap64 ((wrap64 ((IntKind.u64.wrap (wrap64 (x7+x8)))/2))+1)) x8) else (dQ k x0 x1 x6 x7 (wrap64 ((IntKind.u64.wrap (wrap64 (x7+x8)))/2))))) else (none)) else (none)) else (if x7<x6 then (if 0≤x7 then (if x7<(x0.length:Int) then (if (rd x0 x7)=x1 then (some (x7,true)) else ((rK (rd x0 x7)).bind fun t310=>(if t310=true then ((rK x1).bind fun t311=>(some (x7,t311))) else (some (x7,false))))) else (none)) else (none)) else (some (x7,false)))
def gH (k:Nat) (l0:List Int) (a1:Int):Option (Int×Bool):=dQ k l0 a1 (l0.length:Int) 0 (l0.length:Int)
theorem pX: ∀k,(∀y0 y1 y2 y3 y4,bJr (dQ k y0 y1 y2 y3 y4) (dQ (k+1) y0 y1 y2 y3 y4))
 |0=>fun _ _ _ _ _ r h=>by simp [dQ] at h
 | k + 1 => by
  have ih0:=pX k
  ·intro y0 y1 y2 y3 y4
   unfold dQ;repeat' first
   |(with_reducible exact ih0 _ _ _ _ _)
   |(with_reducible exact bJr.refl _)
   |(with_reducible exact bJr.none _)
   |(with_reducible refine bJr.ite ?_ ?_)
   |(with_reducible refine bJr.bind ?_ (fun _=>?_))
   |exact ih0 _ _ _ _ _
   |exact bJr.none _
   |refine bJr.ite ?_ ?_
   |refine bJr.bind ?_ (fun _=>?_)
theorem vE: ∀a0 a1 k,bJr (gH k a0 a1) (gH (k+1) a0 a1):=by
  intro a0 a1 k;have ih0:=pX k;unfold gH
  repeat' first
      |(with_reducible exact ih0 _ _ _ _ _)
      |(with_reducible exact bJr.refl _)
      |(with_reducible exact bJr.none _)
      |(with_reducible refine bJr.ite ?_ ?_)
      |(with_reducible refine bJr.bind ?_ (fun _=>?_))
      |exact ih0 _ _ _ _ _
      |exact bJr.none _
      |refine bJr.ite ?_ ?_
      |refine bJr.bind ?_ (fun _=>?_)
theorem qE (k : Nat) (A0 : Option Addr) (c0 : Nat) (l0 : List Int) (a1 : Int) (r1 : Int) (r2 : Bool) (w : World) (hr0 : Kd.C (Kd.int .i64) w A0 l0.length l0) (hc0 : l0.length ≤ c0) (h : gH k l0 a1 = some (r1, r2)) :
  Calls Try.prog 83 #[.slice A0 l0.length c0,.int .i64 a1] w fun e w'=>e= .returned (.tuple #[.int .i64 r1,.bool r2])∧Drawn0 w w':=by
 have HR0:=aK hr0;have HC0:=aK hc0;clear hr0 hc0;have H:(dQ k l0 a1 (l0.length:Int) 0 (l0.length:Int))=some (r1,r2):=h
 clear h;have H':=aK H;clear H;go_enter Try.func83,Try.ntmps83;go_wp2
 go_loopg [7,8] k (fun kq v7 v8 w'=> ∃(x7_1:Int) (x8_1:Int),v7= .int .i64 x7_1∧v8= .int .i64 x8_1∧Aside0 (dQ kq l0 a1 (l0.length:Int) x7_1 x8_1=some (r1,r2))∧Aside0 (kq≤k)∧Drawn0 w w')
 case atStart=>exact ⟨(0),((l0.length:Int)),nR,nR,H',⟨bV _⟩,by repeat (first|exact Drawn0.refl _|apply Drawn0.step)⟩
 case round =>
  clear H';(try clear p2);obtain ⟨x7_1,x8_1,rfl,rfl,HA,HK1,⟨m1,rfl⟩⟩:=hrel
  cases gk with
  |zero=>exact absurd HA.out (by simp [dQ])
  | succ k1 =>
   have H:=HA.out;clear HA;simp only [dQ] at H;by_cases c3:x7_1<x8_1
   ·rw [if_pos c3] at H
    have c3b0:decide (x7_1<x8_1)=true:=bD c3
    clear c3;obtain ⟨ji4,hji4⟩: ∃j_:Int,(wrap64 ((IntKind.u64.wrap (wrap64 (x7_1+x8_1)))/2))=j_:=⟨_,rfl⟩;replace H:(if 0≤(ji4) then (if (ji4)<(l0.length:Int) then ((pY (rd l0 (ji4)) a1).bind fun t307=>(if t307=true then (dQ k1 l0 a1 (l0.length:Int) (wrap64 ((ji4)+1)) x8_1) else (dQ k1 l0 a1 (l0.length:Int) x7_1 ji4))) else (none)) else (none))=some (r1,r2):=by first|(rw [hji4] at H;exact H)|(simp only [hji4] at H ⊢;exact H)
    have hji4w:(IntKind.i64.wrap ((IntKind.u64.wrap (wrap64 (x7_1+x8_1)))/2))=ji4:=(mN _).trans hji4
    by_cases c5:0≤(ji4)
    ·rw [if_pos c5] at H
     have c5b0:decide (0≤(ji4))=true:=bD c5
     clear c5;by_cases c6:(ji4)<(l0.length:Int)
     ·rw [if_pos c6] at H
      have c6b0:decide ((ji4)<(l0.length:Int))=true:=bD c6
      clear c6;replace H:=Option.bind_eq_some_iff.mp H;obtain ⟨t307,A70,H⟩:=H;(try dsimp only at H);have A7:=aK A70;clear A70;by_cases c8:t307=true
      ·subst c8
       rw [if_pos rfl] at H;have H':=aK H;clear H;have p306:0≤((ji4):Int):=bB jX
       have q306:(ji4)<(l0.length:Int):=bB jX
       obtain ⟨ad306,e306,hx306_0⟩:=dL HR0.out (ji4) p306 q306
       cases e306
       replace p306:=bO p306;replace q306:=bO q306
       go_wp2_with (first|((with_reducible refine dG (f:=107) rfl ?_);refine gE (some 27) rfl rfl Try.func107 (by kernel_rfl) rfl #[.int .i64 (rd l0 (ji4)),.int .i64 a1] rfl (by (try simp only [nX,gU,mP]);first|done|(simp only [hji4];rfl)|rfl|(simp only [dJ,dB];rfl)) ?_;(with_reducible refine (zE (rd l0 (ji4)) a1 true _ A7.out).mono ?_);rintro e w' ⟨rfl,⟨nd,rfl⟩⟩;refine ⟨_,rfl,?_⟩))
       go_roundg k1
       case measure=>have:=HK1.out;omega
       case rel=>exact ⟨(wrap64 ((ji4)+1)),(x8_1),(by first|rfl|(simp;done)|(simp only [←hji4]<;>(first|rfl|simp))|(simp [*];done)),nR,H',⟨by have:=HK1.out;omega⟩,by repeat (first|exact Drawn0.refl _|apply Drawn0.step)⟩
      ·replace c8 := Bool.eq_false_iff.mpr c8
       subst c8;rw [if_neg (show¬(false=true) by decide)] at H;have H':=aK H;clear H;have p306:0≤((ji4):Int):=bB jX
       have q306:(ji4)<(l0.length:Int):=bB jX
       obtain ⟨ad306,e306,hx306_0⟩:=dL HR0.out (ji4) p306 q306
       cases e306
       replace p306:=bO p306;replace q306:=bO q306
       go_wp2_with (first|((with_reducible refine dG (f:=107) rfl ?_);refine gE (some 27) rfl rfl Try.func107 (by kernel_rfl) rfl #[.int .i64 (rd l0 (ji4)),.int .i64 a1] rfl (by (try simp only [nX,gU,mP]);first|done|(simp only [hji4];rfl)|rfl|(simp only [dJ,dB];rfl)) ?_;(with_reducible refine (zE (rd l0 (ji4)) a1 false _ A7.out).mono ?_);rintro e w' ⟨rfl,⟨nd,rfl⟩⟩;refine ⟨_,rfl,?_⟩))
       go_roundg k1
       case measure=>have:=HK1.out;omega
       case rel=>exact ⟨(x7_1),(ji4),nR,(by first|rfl|(simp;done)|(simp only [←hji4]<;>(first|rfl|simp))|(simp [*];done)),H',⟨by have:=HK1.out;omega⟩,by repeat (first|exact Drawn0.refl _|apply Drawn0.step)⟩
     ·rw [if_neg c6] at H
      exact absurd H (by simp)
    ·rw [if_neg c5] at H
     exact absurd H (by simp)
   ·rw [if_neg c3] at H
    have c3b0:decide (x7_1<x8_1)=false:=bM c3
    clear c3;by_cases c9:x7_1<(l0.length:Int)
    ·rw [if_pos c9] at H
     have c9b0:decide (x7_1<(l0.length:Int))=true:=bD c9
     clear c9;by_cases c10:0≤x7_1
     ·rw [if_pos c10] at H
      have c10b0:decide (0≤x7_1)=true:=bD c10
      clear c10;by_cases c11:x7_1<(l0.length:Int)
      ·rw [if_pos c11] at H
       have c11b0:decide (x7_1<(l0.length:Int))=true:=bD c11
       clear c11;by_cases c12:(rd l0 x7_1)=a1
       ·rw [if_pos c12] at H
        have c12b0:((rd l0 x7_1)==a1)=true:=zH.mpr c12
        have c12b1:((rd l0 x7_1) !=a1)=false:=bne_eq_false_iff_eq.mpr c12
        clear c12;simp only [fB,Prod.mk.injEq] at H;obtain ⟨rfl,rfl⟩:=H;have p308:0≤(x7_1:Int):=bB jX
        have q308:x7_1<(l0.length:Int):=bB jX
        obtain ⟨ad308,e308,hx308_0⟩:=dL HR0.out x7_1 p308 q308
        cases e308
        replace p308:=bO p308;replace q308:=bO q308;go_wp2
        go_ret2
        exact ⟨nR,sF⟩
       ·rw [if_neg c12] at H
        have c12b0:((rd l0 x7_1)==a1)=false:=xP.mpr c12
        have c12b1:((rd l0 x7_1) !=a1)=true:=bne_iff_ne.mpr c12
        replace H:=Option.bind_eq_some_iff.mp H;obtain ⟨t310,A130,H⟩:=H;(try dsimp only at H);have A13:=aK A130;clear A130;by_cases c14:t310=true
        ·subst c14
         rw [if_pos rfl] at H;replace H:=Option.bind_eq_some_iff.mp H;obtain ⟨t311,A150,H⟩:=H;(try dsimp only at H);have A15:=aK A150;clear A150;simp only [fB,Prod.mk.injEq] at H;obtain ⟨rfl,rfl⟩:=H;have p308:0≤(x7_1:Int):=bB jX
         have q308:x7_1<(l0.length:Int):=bB jX
         obtain ⟨ad308,e308,hx308_0⟩:=dL HR0.out x7_1 p308 q308
         cases e308
         replace p308:=bO p308;replace q308:=bO q308;have p309:0≤(x7_1:Int):=bB jX
         have q309:x7_1<(l0.length:Int):=bB jX
         obtain ⟨ad309,e309,hx309_0⟩:=dL HR0.out x7_1 p309 q309;obtain rfl:ad308=ad309:=(by injection e309);replace p309:=bO p309;replace q309:=bO q309
         go_wp2_with (first|(go_at_call 108;(with_reducible refine (rL (rd l0 x7_1) true _ A13.out).mono ?_);rintro e w' ⟨rfl,⟨nd,rfl⟩⟩)|(go_at_call 108;(with_reducible refine (rL a1 t311 _ A15.out).mono ?_);rintro e w' ⟨rfl,⟨nd,rfl⟩⟩))
         go_ret2
         exact ⟨nR,sF⟩
        ·replace c14 := Bool.eq_false_iff.mpr c14
         subst c14;rw [if_neg (show¬(false=true) by decide)] at H;simp only [fB,Prod.mk.injEq] at H;obtain ⟨rfl,rfl⟩:=H;have p308:0≤(x7_1:Int):=bB jX
         have q308:x7_1<(l0.length:Int):=bB jX
         obtain ⟨ad308,e308,hx308_0⟩:=dL HR0.out x7_1 p308 q308
         cases e308
         replace p308:=bO p308;replace q308:=bO q308;have p309:0≤(x7_1:Int):=bB jX
         have q309:x7_1<(l0.length:Int):=bB jX
         obtain ⟨ad309,e309,hx309_0⟩:=dL HR0.out x7_1 p309 q309;obtain rfl:ad308=ad309:=(by injection e309);replace p309:=bO p309;replace q309:=bO q309
         go_wp2_with (first|(go_at_call 108;(with_reducible refine (rL (rd l0 x7_1) false _ A13.out).mono ?_);rintro e w' ⟨rfl,⟨nd,rfl⟩⟩))
         go_ret2
         exact ⟨nR,sF⟩
      ·rw [if_neg c11] at H
       exact absurd H (by simp)
     ·rw [if_neg c10] at H
      exact absurd H (by simp)
    ·rw [if_neg c9] at H
     have c9b0:decide (x7_1<(l0.length:Int))=false:=bM c9
     clear c9;simp only [fB,Prod.mk.injEq] at H;obtain ⟨rfl,rfl⟩:=H;go_wp2
     go_ret2
     exact ⟨nR,sF⟩
def qK (k:Nat) (m:Mm) (at_:Int):Option Bool:=(gH k m.begins at_).bind fun p=>some p.2
theorem pN (k:Nat) (g:Nat) (m:Mm) (at_:Int) (r:Bool) (w:World) (hm:MV w g m) (h:qK k m at_=some r):
  Calls Try.prog 78 #[.pointer (some ⟨g,0,none⟩),.int .i64 at_] w fun e w'=>e= .returned (.bool r)∧Drawn0 w w':=by
 unfold qK at h;obtain ⟨⟨p1,p2⟩,hp,h⟩:=Option.bind_eq_some_iff.mp h;obtain rfl:p2=r:=bE h;have HP:=aK hp;obtain ⟨AW,cW,AC,cC,AF,cF,AB,cB,h0,_,_,_,hB,_,_,_,lB⟩:=hm;have HBg:=aK hB;have HL:=aK lB;have g6:=(bA h0 6).trans rfl;clear hp h h0 hB lB;go_enter Try.func78,Try.ntmps78
 go_wp2_with (go_at_call 83;refine (qE k AB cB m.begins at_ p1 p2 _ HBg.out HL.out HP.out).mono ?_;rintro e w' ⟨rfl,⟨nd,rfl⟩⟩)
 go_ret;exact ⟨rfl,Drawn0.step (Drawn0.refl _) _⟩
theorem mY (A0:Option Addr) (n0 c0:Nat) (a1 a2 a3:Int) (A4:Option Addr) (n4 c4:Nat) (x:Int) (r:Bool) (w:World) (h:decide (x>a1)=r):
  Calls Try.prog 81 #[.agg #[.slice A0 n0 c0,.int .i64 a1,.int .i64 a2,.int .i64 a3,.slice A4 n4 c4],.int .i64 x] w fun e w'=>e= .returned (.bool r)∧Below w.heap.size w w':=by
 go_enter Try.func81,Try.ntmps81;go_wp2;go_ret;exact ⟨by rw [←h];rfl,bJ (bH _ _) _⟩
def nV (m:Mm) (at_ k:Int):Option Bool:=(nG m at_).bind fun c=>
  if c= -1 then some false else if c= -2 then some true
  else if 0≤c∧c<m.fields.length∧0≤k∧k<(bIc m.fields c).length then some (rd (bIc m.fields c) k !=1) else none
theorem kP (g:Nat) (m:Mm) (at_ k:Int) (r:Bool) (w:World) (hm:MV w g m) (h:nV m at_ k=some r):
  Calls Try.prog 85 #[bHc g at_,.int .i64 k] w fun e w'=>e= .returned (.bool r)∧Below w.heap.size w w':=by
 unfold nV at h;obtain ⟨c,hc,h⟩:=Option.bind_eq_some_iff.mp h;have HC:=aK hc;have HM:=aK hm;clear hc hm;by_cases c1:c= -1
 ·rw [if_pos c1] at h
  have HR:=aK (bE h);have d1:(c== -1)=true:=zH.mpr c1
  clear c1 h;unfold bHc;go_enter Try.func85,Try.ntmps85
  go_wp2_with fail
  go_at_call 109;refine (kQ g m at_ c _ (dH HM.out (bJ (bH _ _) _)) HC.out).mono ?_;rintro e w1 ⟨rfl,hb⟩;have HB:=aK (bK (bJ (bH _ _) _) hb:Below w.heap.size w w1);clear hb;go_wp2;go_ret;exact ⟨by rw [←HR.out];rfl,HB.out⟩
 rw [if_neg c1] at h;have d1:(c== -1)=false:=xP.mpr c1
 by_cases c2:c= -2
 ·rw [if_pos c2] at h
  have HR:=aK (bE h);have d2:(c== -2)=true:=zH.mpr c2
  clear c1 c2 h;unfold bHc;go_enter Try.func85,Try.ntmps85
  go_wp2_with fail
  go_at_call 109;refine (kQ g m at_ c _ (dH HM.out (bJ (bH _ _) _)) HC.out).mono ?_;rintro e w1 ⟨rfl,hb⟩;have HB:=aK (bK (bJ (bH _ _) _) hb:Below w.heap.size w w1);clear hb;go_wp2;go_ret;exact ⟨by rw [←HR.out];rfl,HB.out⟩
 rw [if_neg c2] at h;have d2:(c== -2)=false:=xP.mpr c2
 split at h
 case isFalse=>simp at h
 case isTrue h2=>
 obtain ⟨c3,c4,c5,c6⟩:=h2;have HR:=aK (bE h);clear h c1 c2;unfold bHc;go_enter Try.func85,Try.ntmps85
 go_wp2_with fail
 go_at_call 109;refine (kQ g m at_ c _ (dH HM.out (bJ (bH _ _) _)) HC.out).mono ?_;rintro e w1 ⟨rfl,hb⟩;have HB:=aK (bK (bJ (bH _ _) _) hb:Below w.heap.size w w1);have hbx:=bCs hb;have HM1:=aK (dH HM.out HB.out);obtain ⟨AW,cW,AC,cC,AF,cF,AB,cB,h0,_,_,hF,_,_⟩:=HM1.out;have p1:=bO c3;have p2:=bO c4;obtain ⟨ad,Af,cf,e0,hx,_,hK⟩:=bOp hF c (by omega) (by omega)
 cases e0
 have p3:=bO c5;have p4:=bO c6;obtain ⟨ad2,e0,hy⟩:=dL hK k (by omega) (by omega)
 cases e0
 have b0:=(bA hbx 0).trans rfl;have b1:=(bA hbx 1).trans rfl;have g5:=(bA h0 5).trans rfl;clear hF hK hbx h0 hb c3 c4 c5 c6;go_wp2;refine sT 14 (S:=fun w'=>Aside0 (Below w.heap.size w w')∧Aside0 (MV w' g (m))∧w'.cell? (⟨w.heap.size,0,none⟩)=some (.pointer (some ⟨g,0,none⟩))∧w'.cell? (⟨w.heap.size,1,none⟩)=some (.int .i64 at_)∧w'.cell? (⟨g,5,none⟩)=some (.slice (some ad) m.fields.length cF)∧w'.cell? (ad.add c.toNat)=some (.slice (some ad2) (bIc m.fields c).length cf)∧w'.cell? (ad2.add k.toNat)=some (.int .i64 (rd (bIc m.fields c) k))) (ds:=[]) ⟨⟨bG HB.out⟩,⟨dH HM1.out (bG (bH _ _))⟩,(by go_simp),(by go_simp),(by go_simp),(by go_simp),(by go_simp)⟩ (fun hHeld=>?_);refine cJ 0 ?_;refine cJ 9 ?_;refine tS 1 12 (lA 14 515) rfl rfl (by kernel_rfl) hHeld bCv ?_;refine cJ 2 ?_;refine cJ 3 ?_;refine tS 4 15 (lA 14 543) rfl rfl (by kernel_rfl) hHeld bCv ?_;refine tS 5 16 (lA 14 575) rfl rfl (by kernel_rfl) hHeld bCv ?_;refine oS 6 17 (lA 14 639) rfl rfl (fun K hK=>?_);refine gO Try.func109 #[bHc g at_] ?_;(with_reducible refine (kQ g m at_ c _ hHeld.2.1.out HC.out).mono ?_);rintro e w3 ⟨rfl,hb3⟩;refine ⟨_,rfl,?_⟩;refine hK.out _ _ ⟨⟨bK hHeld.1.out hb3⟩,⟨dH hHeld.2.1.out hb3⟩,(bDe hb3 hHeld.2.2)⟩ (fun hHeld=>?_);clear hK K;refine nS 17 ?_;refine cJ 7 ?_;refine tS 8 19 (lA 14 1023) rfl rfl (by kernel_rfl) hHeld bCv ?_;refine cJ 10 ?_;refine tS 11 22 (lA 14 4095) rfl rfl (by kernel_rfl) hHeld bCv ?_;refine cJ 12 ?_;refine cJ 13 ?_;refine gT (by kernel_rfl) ?_;go_wp2;go_ret;exact ⟨by rw [←HR.out];rfl,hHeld.1.out⟩
end Go.Proofs.Ytbaklikaoleplaa.K
