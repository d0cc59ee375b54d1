/-
  No cell of these rows narrows 'for every input' (looked for: loops, veiled, ifaces, maps, wideKeys, modest, calm, conditions, laid).
  DERIVED. THE GIVEN ROWS OF THIS SEAT. 4 by the template 'for every input the law returns true; each argument reads behind the call as it read before'; 0 by the template 'total and deterministic' (their statements: YtmniglgahodghaaTotals.lean).
  GIVEN WITH THE SEED: the statements are not yours to turn. If you find one false, say at which input.
  Laid BY PROGRAM, IN A SANDBOX (cutbox-rows.mjs): the forced cells as the released guide's own fill.sh prints them over the translation 1a29d94eba9ab961… (all of the seat's roots in one cut). By AI agents, Wed Nov 11 2026. No macro, syntax, notation, axiom, sorry.
-/
import Derived.Test.YtmniglgahodghaaChecked
import GoSem.Claim
import GoSem.ClaimJoined
import GoSem.ClaimMapViews
import Derived.JoinedTies
import Derived.KernelRfl
namespace Go.Proofs.Ytmniglgahodghaa
/- THE CELL 'sum', in the pinned program and in every row, IS THE sha256 OF THE DUMP (.gsa) THAT YtmniglgahodghaaProg.lean LOADS. Nothing in Lean hashes anything: it is a label: what it is worth is what the hold of that sum in a sandbox is worth. -/
noncomputable def Try.pinned : Pinned := { name := "ytmniglgahodghaa", sum := "1a29d94eba9ab961ac0936c623a18c070316c935813e952ab5e3f9505fee53e8", checked := Try.checked }
namespace Rows
def none {H : Type} : Left H := { results := [], args := [] }

/-- 'laws.FnExactMemPut': WHATEVER THE INPUT: true; the input reads as it did. -/
def fnExactMemPutSpec : ChangeSpec := { name := "fnExactMemPut", fn := fun _ => fun
  | [d1, d2, d3, d4, d5] => { results := [.lit (.bool true)], args := [d1, d2, d3, d4, d5] }
  | _ => none }
def fnExactMemPutRow : OpenClaim := { program := "ytmniglgahodghaa", sum := "1a29d94eba9ab961ac0936c623a18c070316c935813e952ab5e3f9505fee53e8", func := "loop.example/entail/laws.FnExactMemPut", spec := "fnExactMemPut", unfollowed := true, recurses := true, apart := false }
def FnExactMemPutSaid : Prop := fnExactMemPutRow.holds Try.pinned (OpenSpec.ofChange fnExactMemPutSpec)

/-- ITS FALSE NEIGHBOUR: 'it returns false'. Refute it at one input. -/
def fnExactMemPutWrong : ChangeSpec := { name := "fnExactMemPut", fn := fun _ => fun
  | [d1, d2, d3, d4, d5] => { results := [.lit (.bool false)], args := [d1, d2, d3, d4, d5] }
  | _ => none }
def FnExactMemPutWrongFalsely : Prop := fnExactMemPutRow.holds Try.pinned (OpenSpec.ofChange fnExactMemPutWrong)

/-- 'laws.FnExactMemObjs': WHATEVER THE INPUT: true; the input reads as it did. -/
def fnExactMemObjsSpec : ChangeSpec := { name := "fnExactMemObjs", fn := fun _ => fun
  | [d1, d2] => { results := [.lit (.bool true)], args := [d1, d2] }
  | _ => none }
def fnExactMemObjsRow : OpenClaim := { program := "ytmniglgahodghaa", sum := "1a29d94eba9ab961ac0936c623a18c070316c935813e952ab5e3f9505fee53e8", func := "loop.example/entail/laws.FnExactMemObjs", spec := "fnExactMemObjs", unfollowed := true, recurses := true, apart := false }
def FnExactMemObjsSaid : Prop := fnExactMemObjsRow.holds Try.pinned (OpenSpec.ofChange fnExactMemObjsSpec)

/-- ITS FALSE NEIGHBOUR: 'it returns false'. Refute it at one input. -/
def fnExactMemObjsWrong : ChangeSpec := { name := "fnExactMemObjs", fn := fun _ => fun
  | [d1, d2] => { results := [.lit (.bool false)], args := [d1, d2] }
  | _ => none }
def FnExactMemObjsWrongFalsely : Prop := fnExactMemObjsRow.holds Try.pinned (OpenSpec.ofChange fnExactMemObjsWrong)

/-- 'laws.FnExactMemMake': WHATEVER THE INPUT: true; the input reads as it did. -/
def fnExactMemMakeSpec : ChangeSpec := { name := "fnExactMemMake", fn := fun _ => fun
  | [d1, d2, d3, d4, d5] => { results := [.lit (.bool true)], args := [d1, d2, d3, d4, d5] }
  | _ => none }
def fnExactMemMakeRow : OpenClaim := { program := "ytmniglgahodghaa", sum := "1a29d94eba9ab961ac0936c623a18c070316c935813e952ab5e3f9505fee53e8", func := "loop.example/entail/laws.FnExactMemMake", spec := "fnExactMemMake", inPlace := ["slices.overlaps[int]"], unfollowed := true, recurses := true, apart := false }
def FnExactMemMakeSaid : Prop := fnExactMemMakeRow.holds Try.pinned (OpenSpec.ofChange fnExactMemMakeSpec)

/-- ITS FALSE NEIGHBOUR: 'it returns false'. Refute it at one input. -/
def fnExactMemMakeWrong : ChangeSpec := { name := "fnExactMemMake", fn := fun _ => fun
  | [d1, d2, d3, d4, d5] => { results := [.lit (.bool false)], args := [d1, d2, d3, d4, d5] }
  | _ => none }
def FnExactMemMakeWrongFalsely : Prop := fnExactMemMakeRow.holds Try.pinned (OpenSpec.ofChange fnExactMemMakeWrong)

/-- 'laws.FnExactGcMinor': WHATEVER THE INPUT: true; the input reads as it did. -/
def fnExactGcMinorSpec : ChangeSpec := { name := "fnExactGcMinor", fn := fun _ => fun
  | [d1, d2, d3] => { results := [.lit (.bool true)], args := [d1, d2, d3] }
  | _ => none }
def fnExactGcMinorRow : OpenClaim := { program := "ytmniglgahodghaa", sum := "1a29d94eba9ab961ac0936c623a18c070316c935813e952ab5e3f9505fee53e8", func := "loop.example/entail/laws.FnExactGcMinor", spec := "fnExactGcMinor", unfollowed := true, recurses := true, apart := false }
def FnExactGcMinorSaid : Prop := fnExactGcMinorRow.holds Try.pinned (OpenSpec.ofChange fnExactGcMinorSpec)

/-- ITS FALSE NEIGHBOUR: 'it returns false'. Refute it at one input. -/
def fnExactGcMinorWrong : ChangeSpec := { name := "fnExactGcMinor", fn := fun _ => fun
  | [d1, d2, d3] => { results := [.lit (.bool false)], args := [d1, d2, d3] }
  | _ => none }
def FnExactGcMinorWrongFalsely : Prop := fnExactGcMinorRow.holds Try.pinned (OpenSpec.ofChange fnExactGcMinorWrong)

/- THE SECOND FORM. 'bulk': how many values and letters a reading holds, each counted each time it is reached (what is shared counts as often as it is met; a slice's spare places count too). A statement '..UptoSaid' is the law's where the arguments, and the package variables that the reading takes, are together of bulk at most 1048576: NARROWER than '..Said'. Prove '..Said' where nothing that the law and all that it calls make is longer than what came in: it says more and counts as full. Else prove '..UptoSaid'. A law counts once. -/
mutual
def uptoBulk {H : Type} : DataW H → Nat
  | .lit (.string bytes) => bytes.length + 1
  | .lit _ => 1
  | .nil => 1
  | .ptr d => uptoBulk d + 1
  | .slice elems spare => uptoBulkAll elems + uptoBulkAll spare + 1
  | .agg parts => uptoBulkAll parts + 1
  | .iface _ d => uptoBulk d + 1
  | .map entries => uptoBulkEntries entries + 1
  | .held _ => 1
def uptoBulkAll {H : Type} : List (DataW H) → Nat
  | [] => 0
  | d :: r => uptoBulk d + uptoBulkAll r
def uptoBulkEntries {H : Type} : List (Lit × DataW H) → Nat
  | [] => 0
  | x :: r => uptoBulkEntry x + uptoBulkEntries r
def uptoBulkEntry {H : Type} : Lit × DataW H → Nat
  | (.string bytes, d) => bytes.length + uptoBulk d + 1
  | (_, d) => uptoBulk d + 1
 end
def uptoSmall : (H : Type) → List (DataW H) → Bool := fun _ ds => decide (uptoBulkAll ds ≤ 1048576)
def OpenSpec.upto (s : _root_.Go.ChangeSpec) : _root_.Go.OpenSpec := { _root_.Go.OpenSpec.ofChange s with cond := some uptoSmall }

/-- 'laws.FnExactMemPut', WHERE WHAT IT READS IS OF BULK AT MOST 1048576: true; the input reads as it did. -/
def fnExactMemPutUptoRow : OpenClaim := { program := "ytmniglgahodghaa", sum := "1a29d94eba9ab961ac0936c623a18c070316c935813e952ab5e3f9505fee53e8", func := "loop.example/entail/laws.FnExactMemPut", spec := "fnExactMemPut", unfollowed := true, recurses := true, apart := false, narrowed := true }
def FnExactMemPutUptoSaid : Prop := fnExactMemPutUptoRow.holds Try.pinned (OpenSpec.upto fnExactMemPutSpec)

/-- 'laws.FnExactMemObjs', WHERE WHAT IT READS IS OF BULK AT MOST 1048576: true; the input reads as it did. -/
def fnExactMemObjsUptoRow : OpenClaim := { program := "ytmniglgahodghaa", sum := "1a29d94eba9ab961ac0936c623a18c070316c935813e952ab5e3f9505fee53e8", func := "loop.example/entail/laws.FnExactMemObjs", spec := "fnExactMemObjs", unfollowed := true, recurses := true, apart := false, narrowed := true }
def FnExactMemObjsUptoSaid : Prop := fnExactMemObjsUptoRow.holds Try.pinned (OpenSpec.upto fnExactMemObjsSpec)

/-- 'laws.FnExactMemMake', WHERE WHAT IT READS IS OF BULK AT MOST 1048576: true; the input reads as it did. -/
def fnExactMemMakeUptoRow : OpenClaim := { program := "ytmniglgahodghaa", sum := "1a29d94eba9ab961ac0936c623a18c070316c935813e952ab5e3f9505fee53e8", func := "loop.example/entail/laws.FnExactMemMake", spec := "fnExactMemMake", inPlace := ["slices.overlaps[int]"], unfollowed := true, recurses := true, apart := false, narrowed := true }
def FnExactMemMakeUptoSaid : Prop := fnExactMemMakeUptoRow.holds Try.pinned (OpenSpec.upto fnExactMemMakeSpec)

/-- 'laws.FnExactGcMinor', WHERE WHAT IT READS IS OF BULK AT MOST 1048576: true; the input reads as it did. -/
def fnExactGcMinorUptoRow : OpenClaim := { program := "ytmniglgahodghaa", sum := "1a29d94eba9ab961ac0936c623a18c070316c935813e952ab5e3f9505fee53e8", func := "loop.example/entail/laws.FnExactGcMinor", spec := "fnExactGcMinor", unfollowed := true, recurses := true, apart := false, narrowed := true }
def FnExactGcMinorUptoSaid : Prop := fnExactGcMinorUptoRow.holds Try.pinned (OpenSpec.upto fnExactGcMinorSpec)

end Rows
end Go.Proofs.Ytmniglgahodghaa
