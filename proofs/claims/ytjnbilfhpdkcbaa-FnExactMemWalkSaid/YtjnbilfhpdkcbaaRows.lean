/-
  No cell of these rows narrows 'for every input' (looked for: loops, veiled, ifaces, maps, wideKeys, modest, calm, conditions, laid).
  DERIVED. THE GIVEN ROWS OF THIS SEAT. 6 by the template 'for every input the law returns true; each argument reads behind the call as it read before'; 0 by the template 'total and deterministic' (their statements: YtjnbilfhpdkcbaaTotals.lean).
  GIVEN WITH THE SEED: the statements are not yours to turn. If you find one false, say at which input.
  Laid BY PROGRAM, IN A SANDBOX (cutbox-rows.mjs): the forced cells as the released guide's own fill.sh prints them over the translation 9b24d87ca8e3a0b2… (all of the seat's roots in one cut). By AI agents, Wed Nov 11 2026. No macro, syntax, notation, axiom, sorry.
-/
import Derived.Test.YtjnbilfhpdkcbaaChecked
import GoSem.Claim
import GoSem.ClaimJoined
import GoSem.ClaimMapViews
import Derived.JoinedTies
import Derived.KernelRfl
namespace Go.Proofs.Ytjnbilfhpdkcbaa
/- THE CELL 'sum', in the pinned program and in every row, IS THE sha256 OF THE DUMP (.gsa) THAT YtjnbilfhpdkcbaaProg.lean LOADS. Nothing in Lean hashes anything: it is a label: what it is worth is what the hold of that sum in a sandbox is worth. -/
noncomputable def Try.pinned : Pinned := { name := "ytjnbilfhpdkcbaa", sum := "9b24d87ca8e3a0b28cca95074c41e1b8ecc470011d033a65326927856ee11898", checked := Try.checked }
namespace Rows
def none {H : Type} : Left H := { results := [], args := [] }

/-- 'laws.FnMemNew': WHATEVER THE INPUT: true; the input reads as it did. -/
def fnMemNewSpec : ChangeSpec := { name := "fnMemNew", fn := fun _ => fun
  | [d] => { results := [.lit (.bool true)], args := [d] }
  | _ => none }
def fnMemNewRow : OpenClaim := { program := "ytjnbilfhpdkcbaa", sum := "9b24d87ca8e3a0b28cca95074c41e1b8ecc470011d033a65326927856ee11898", func := "loop.example/entail/laws.FnMemNew", spec := "fnMemNew", unfollowed := true, recurses := true, apart := false }
def FnMemNewSaid : Prop := fnMemNewRow.holds Try.pinned (OpenSpec.ofChange fnMemNewSpec)

/-- ITS FALSE NEIGHBOUR: 'it returns false'. Refute it at one input. -/
def fnMemNewWrong : ChangeSpec := { name := "fnMemNew", fn := fun _ => fun
  | [d] => { results := [.lit (.bool false)], args := [d] }
  | _ => none }
def FnMemNewWrongFalsely : Prop := fnMemNewRow.holds Try.pinned (OpenSpec.ofChange fnMemNewWrong)

/-- 'laws.FnExactMemOk': WHATEVER THE INPUT: true; the input reads as it did. -/
def fnExactMemOkSpec : ChangeSpec := { name := "fnExactMemOk", fn := fun _ => fun
  | [d1, d2] => { results := [.lit (.bool true)], args := [d1, d2] }
  | _ => none }
def fnExactMemOkRow : OpenClaim := { program := "ytjnbilfhpdkcbaa", sum := "9b24d87ca8e3a0b28cca95074c41e1b8ecc470011d033a65326927856ee11898", func := "loop.example/entail/laws.FnExactMemOk", spec := "fnExactMemOk", unfollowed := true, recurses := true, apart := false }
def FnExactMemOkSaid : Prop := fnExactMemOkRow.holds Try.pinned (OpenSpec.ofChange fnExactMemOkSpec)

/-- ITS FALSE NEIGHBOUR: 'it returns false'. Refute it at one input. -/
def fnExactMemOkWrong : ChangeSpec := { name := "fnExactMemOk", fn := fun _ => fun
  | [d1, d2] => { results := [.lit (.bool false)], args := [d1, d2] }
  | _ => none }
def FnExactMemOkWrongFalsely : Prop := fnExactMemOkRow.holds Try.pinned (OpenSpec.ofChange fnExactMemOkWrong)

/-- 'laws.FnExactMemSize': WHATEVER THE INPUT: true; the input reads as it did. -/
def fnExactMemSizeSpec : ChangeSpec := { name := "fnExactMemSize", fn := fun _ => fun
  | [d1, d2, d3] => { results := [.lit (.bool true)], args := [d1, d2, d3] }
  | _ => none }
def fnExactMemSizeRow : OpenClaim := { program := "ytjnbilfhpdkcbaa", sum := "9b24d87ca8e3a0b28cca95074c41e1b8ecc470011d033a65326927856ee11898", func := "loop.example/entail/laws.FnExactMemSize", spec := "fnExactMemSize", unfollowed := true, recurses := true, apart := false }
def FnExactMemSizeSaid : Prop := fnExactMemSizeRow.holds Try.pinned (OpenSpec.ofChange fnExactMemSizeSpec)

/-- ITS FALSE NEIGHBOUR: 'it returns false'. Refute it at one input. -/
def fnExactMemSizeWrong : ChangeSpec := { name := "fnExactMemSize", fn := fun _ => fun
  | [d1, d2, d3] => { results := [.lit (.bool false)], args := [d1, d2, d3] }
  | _ => none }
def FnExactMemSizeWrongFalsely : Prop := fnExactMemSizeRow.holds Try.pinned (OpenSpec.ofChange fnExactMemSizeWrong)

/-- 'laws.FnExactMemGet': WHATEVER THE INPUT: true; the input reads as it did. -/
def fnExactMemGetSpec : ChangeSpec := { name := "fnExactMemGet", fn := fun _ => fun
  | [d1, d2, d3, d4] => { results := [.lit (.bool true)], args := [d1, d2, d3, d4] }
  | _ => none }
def fnExactMemGetRow : OpenClaim := { program := "ytjnbilfhpdkcbaa", sum := "9b24d87ca8e3a0b28cca95074c41e1b8ecc470011d033a65326927856ee11898", func := "loop.example/entail/laws.FnExactMemGet", spec := "fnExactMemGet", unfollowed := true, recurses := true, apart := false }
def FnExactMemGetSaid : Prop := fnExactMemGetRow.holds Try.pinned (OpenSpec.ofChange fnExactMemGetSpec)

/-- ITS FALSE NEIGHBOUR: 'it returns false'. Refute it at one input. -/
def fnExactMemGetWrong : ChangeSpec := { name := "fnExactMemGet", fn := fun _ => fun
  | [d1, d2, d3, d4] => { results := [.lit (.bool false)], args := [d1, d2, d3, d4] }
  | _ => none }
def FnExactMemGetWrongFalsely : Prop := fnExactMemGetRow.holds Try.pinned (OpenSpec.ofChange fnExactMemGetWrong)

/-- 'laws.FnExactMemWalk': WHATEVER THE INPUT: true; the input reads as it did. -/
def fnExactMemWalkSpec : ChangeSpec := { name := "fnExactMemWalk", fn := fun _ => fun
  | [d1, d2] => { results := [.lit (.bool true)], args := [d1, d2] }
  | _ => none }
def fnExactMemWalkRow : OpenClaim := { program := "ytjnbilfhpdkcbaa", sum := "9b24d87ca8e3a0b28cca95074c41e1b8ecc470011d033a65326927856ee11898", func := "loop.example/entail/laws.FnExactMemWalk", spec := "fnExactMemWalk", unfollowed := true, recurses := true, apart := false }
def FnExactMemWalkSaid : Prop := fnExactMemWalkRow.holds Try.pinned (OpenSpec.ofChange fnExactMemWalkSpec)

/-- ITS FALSE NEIGHBOUR: 'it returns false'. Refute it at one input. -/
def fnExactMemWalkWrong : ChangeSpec := { name := "fnExactMemWalk", fn := fun _ => fun
  | [d1, d2] => { results := [.lit (.bool false)], args := [d1, d2] }
  | _ => none }
def FnExactMemWalkWrongFalsely : Prop := fnExactMemWalkRow.holds Try.pinned (OpenSpec.ofChange fnExactMemWalkWrong)

/-- 'laws.FnWalkTile': WHATEVER THE INPUT: true; the input reads as it did. -/
def fnWalkTileSpec : ChangeSpec := { name := "fnWalkTile", fn := fun _ => fun
  | [d] => { results := [.lit (.bool true)], args := [d] }
  | _ => none }
def fnWalkTileRow : OpenClaim := { program := "ytjnbilfhpdkcbaa", sum := "9b24d87ca8e3a0b28cca95074c41e1b8ecc470011d033a65326927856ee11898", func := "loop.example/entail/laws.FnWalkTile", spec := "fnWalkTile", unfollowed := true, recurses := true, apart := false }
def FnWalkTileSaid : Prop := fnWalkTileRow.holds Try.pinned (OpenSpec.ofChange fnWalkTileSpec)

/-- ITS FALSE NEIGHBOUR: 'it returns false'. Refute it at one input. -/
def fnWalkTileWrong : ChangeSpec := { name := "fnWalkTile", fn := fun _ => fun
  | [d] => { results := [.lit (.bool false)], args := [d] }
  | _ => none }
def FnWalkTileWrongFalsely : Prop := fnWalkTileRow.holds Try.pinned (OpenSpec.ofChange fnWalkTileWrong)

/- THE SECOND FORM. 'bulk': how many values and letters a reading holds, each counted each time it is reached (what is shared counts as often as it is met; a slice's spare places count too). A statement '..UptoSaid' is the law's where the arguments, and the package variables that the reading takes, are together of bulk at most 1048576: NARROWER than '..Said'. Prove '..Said' where nothing that the law and all that it calls make is longer than what came in: it says more and counts as full. Else prove '..UptoSaid'. A law counts once. -/
mutual
def uptoBulk {H : Type} : DataW H → Nat
  | .lit (.string bytes) => bytes.length + 1
  | .lit _ => 1
  | .nil => 1
  | .ptr d => uptoBulk d + 1
  | .slice elems spare => uptoBulkAll elems + uptoBulkAll spare + 1
  | .agg parts => uptoBulkAll parts + 1
  | .iface _ d => uptoBulk d + 1
  | .map entries => uptoBulkEntries entries + 1
  | .held _ => 1
def uptoBulkAll {H : Type} : List (DataW H) → Nat
  | [] => 0
  | d :: r => uptoBulk d + uptoBulkAll r
def uptoBulkEntries {H : Type} : List (Lit × DataW H) → Nat
  | [] => 0
  | x :: r => uptoBulkEntry x + uptoBulkEntries r
def uptoBulkEntry {H : Type} : Lit × DataW H → Nat
  | (.string bytes, d) => bytes.length + uptoBulk d + 1
  | (_, d) => uptoBulk d + 1
 end
def uptoSmall : (H : Type) → List (DataW H) → Bool := fun _ ds => decide (uptoBulkAll ds ≤ 1048576)
def OpenSpec.upto (s : _root_.Go.ChangeSpec) : _root_.Go.OpenSpec := { _root_.Go.OpenSpec.ofChange s with cond := some uptoSmall }

/-- 'laws.FnMemNew', WHERE WHAT IT READS IS OF BULK AT MOST 1048576: true; the input reads as it did. -/
def fnMemNewUptoRow : OpenClaim := { program := "ytjnbilfhpdkcbaa", sum := "9b24d87ca8e3a0b28cca95074c41e1b8ecc470011d033a65326927856ee11898", func := "loop.example/entail/laws.FnMemNew", spec := "fnMemNew", unfollowed := true, recurses := true, apart := false, narrowed := true }
def FnMemNewUptoSaid : Prop := fnMemNewUptoRow.holds Try.pinned (OpenSpec.upto fnMemNewSpec)

/-- 'laws.FnExactMemOk', WHERE WHAT IT READS IS OF BULK AT MOST 1048576: true; the input reads as it did. -/
def fnExactMemOkUptoRow : OpenClaim := { program := "ytjnbilfhpdkcbaa", sum := "9b24d87ca8e3a0b28cca95074c41e1b8ecc470011d033a65326927856ee11898", func := "loop.example/entail/laws.FnExactMemOk", spec := "fnExactMemOk", unfollowed := true, recurses := true, apart := false, narrowed := true }
def FnExactMemOkUptoSaid : Prop := fnExactMemOkUptoRow.holds Try.pinned (OpenSpec.upto fnExactMemOkSpec)

/-- 'laws.FnExactMemSize', WHERE WHAT IT READS IS OF BULK AT MOST 1048576: true; the input reads as it did. -/
def fnExactMemSizeUptoRow : OpenClaim := { program := "ytjnbilfhpdkcbaa", sum := "9b24d87ca8e3a0b28cca95074c41e1b8ecc470011d033a65326927856ee11898", func := "loop.example/entail/laws.FnExactMemSize", spec := "fnExactMemSize", unfollowed := true, recurses := true, apart := false, narrowed := true }
def FnExactMemSizeUptoSaid : Prop := fnExactMemSizeUptoRow.holds Try.pinned (OpenSpec.upto fnExactMemSizeSpec)

/-- 'laws.FnExactMemGet', WHERE WHAT IT READS IS OF BULK AT MOST 1048576: true; the input reads as it did. -/
def fnExactMemGetUptoRow : OpenClaim := { program := "ytjnbilfhpdkcbaa", sum := "9b24d87ca8e3a0b28cca95074c41e1b8ecc470011d033a65326927856ee11898", func := "loop.example/entail/laws.FnExactMemGet", spec := "fnExactMemGet", unfollowed := true, recurses := true, apart := false, narrowed := true }
def FnExactMemGetUptoSaid : Prop := fnExactMemGetUptoRow.holds Try.pinned (OpenSpec.upto fnExactMemGetSpec)

/-- 'laws.FnExactMemWalk', WHERE WHAT IT READS IS OF BULK AT MOST 1048576: true; the input reads as it did. -/
def fnExactMemWalkUptoRow : OpenClaim := { program := "ytjnbilfhpdkcbaa", sum := "9b24d87ca8e3a0b28cca95074c41e1b8ecc470011d033a65326927856ee11898", func := "loop.example/entail/laws.FnExactMemWalk", spec := "fnExactMemWalk", unfollowed := true, recurses := true, apart := false, narrowed := true }
def FnExactMemWalkUptoSaid : Prop := fnExactMemWalkUptoRow.holds Try.pinned (OpenSpec.upto fnExactMemWalkSpec)

/-- 'laws.FnWalkTile', WHERE WHAT IT READS IS OF BULK AT MOST 1048576: true; the input reads as it did. -/
def fnWalkTileUptoRow : OpenClaim := { program := "ytjnbilfhpdkcbaa", sum := "9b24d87ca8e3a0b28cca95074c41e1b8ecc470011d033a65326927856ee11898", func := "loop.example/entail/laws.FnWalkTile", spec := "fnWalkTile", unfollowed := true, recurses := true, apart := false, narrowed := true }
def FnWalkTileUptoSaid : Prop := fnWalkTileUptoRow.holds Try.pinned (OpenSpec.upto fnWalkTileSpec)

end Rows
end Go.Proofs.Ytjnbilfhpdkcbaa
