/-
  No cell of these rows narrows 'for every input' (looked for: loops, veiled, ifaces, maps, wideKeys, modest, calm, conditions, laid).
  DERIVED. THE GIVEN ROWS OF THIS SEAT. 6 by the template 'for every input the law returns true; each argument reads behind the call as it read before'; 0 by the template 'total and deterministic' (their statements: YtnjbgkmmfndmeaaTotals.lean).
  GIVEN WITH THE SEED: the statements are not yours to turn. If you find one false, say at which input.
  Laid BY PROGRAM, IN A SANDBOX (cutbox-rows.mjs): the forced cells as the released guide's own fill.sh prints them over the translation 571c4c5b994b8df1… (all of the seat's roots in one cut). By AI agents, Wed Nov 11 2026. No macro, syntax, notation, axiom, sorry.
-/
import Derived.Test.YtnjbgkmmfndmeaaChecked
import GoSem.Claim
import GoSem.ClaimJoined
import GoSem.ClaimMapViews
import Derived.JoinedTies
import Derived.KernelRfl
namespace Go.Proofs.Ytnjbgkmmfndmeaa
/- THE CELL 'sum', in the pinned program and in every row, IS THE sha256 OF THE DUMP (.gsa) THAT YtnjbgkmmfndmeaaProg.lean LOADS. Nothing in Lean hashes anything: it is a label: what it is worth is what the hold of that sum in a sandbox is worth. -/
noncomputable def Try.pinned : Pinned := { name := "ytnjbgkmmfndmeaa", sum := "571c4c5b994b8df19cd6145f8ee3fa4843a8eb09b15b8faf85d686e2a9e496dd", checked := Try.checked }
namespace Rows
def none {H : Type} : Left H := { results := [], args := [] }

/-- 'laws.FnTypeJoin': WHATEVER THE INPUT: true; the input reads as it did. -/
def fnTypeJoinSpec : ChangeSpec := { name := "fnTypeJoin", fn := fun _ => fun
  | [d] => { results := [.lit (.bool true)], args := [d] }
  | _ => none }
def fnTypeJoinRow : OpenClaim := { program := "ytnjbgkmmfndmeaa", sum := "571c4c5b994b8df19cd6145f8ee3fa4843a8eb09b15b8faf85d686e2a9e496dd", func := "loop.example/entail/laws.FnTypeJoin", spec := "fnTypeJoin", unfollowed := true, recurses := true, apart := false }
def FnTypeJoinSaid : Prop := fnTypeJoinRow.holds Try.pinned (OpenSpec.ofChange fnTypeJoinSpec)

/-- ITS FALSE NEIGHBOUR: 'it returns false'. Refute it at one input. -/
def fnTypeJoinWrong : ChangeSpec := { name := "fnTypeJoin", fn := fun _ => fun
  | [d] => { results := [.lit (.bool false)], args := [d] }
  | _ => none }
def FnTypeJoinWrongFalsely : Prop := fnTypeJoinRow.holds Try.pinned (OpenSpec.ofChange fnTypeJoinWrong)

/-- 'laws.FnExactShapeJoin': WHATEVER THE INPUT: true; the input reads as it did. -/
def fnExactShapeJoinSpec : ChangeSpec := { name := "fnExactShapeJoin", fn := fun _ => fun
  | [d1, d2, d3] => { results := [.lit (.bool true)], args := [d1, d2, d3] }
  | _ => none }
def fnExactShapeJoinRow : OpenClaim := { program := "ytnjbgkmmfndmeaa", sum := "571c4c5b994b8df19cd6145f8ee3fa4843a8eb09b15b8faf85d686e2a9e496dd", func := "loop.example/entail/laws.FnExactShapeJoin", spec := "fnExactShapeJoin", unfollowed := true, recurses := true, apart := false }
def FnExactShapeJoinSaid : Prop := fnExactShapeJoinRow.holds Try.pinned (OpenSpec.ofChange fnExactShapeJoinSpec)

/-- ITS FALSE NEIGHBOUR: 'it returns false'. Refute it at one input. -/
def fnExactShapeJoinWrong : ChangeSpec := { name := "fnExactShapeJoin", fn := fun _ => fun
  | [d1, d2, d3] => { results := [.lit (.bool false)], args := [d1, d2, d3] }
  | _ => none }
def FnExactShapeJoinWrongFalsely : Prop := fnExactShapeJoinRow.holds Try.pinned (OpenSpec.ofChange fnExactShapeJoinWrong)

/-- 'laws.FnShapeJoin': WHATEVER THE INPUT: true; the input reads as it did. -/
def fnShapeJoinSpec : ChangeSpec := { name := "fnShapeJoin", fn := fun _ => fun
  | [d1, d2] => { results := [.lit (.bool true)], args := [d1, d2] }
  | _ => none }
def fnShapeJoinRow : OpenClaim := { program := "ytnjbgkmmfndmeaa", sum := "571c4c5b994b8df19cd6145f8ee3fa4843a8eb09b15b8faf85d686e2a9e496dd", func := "loop.example/entail/laws.FnShapeJoin", spec := "fnShapeJoin", unfollowed := true, recurses := true, apart := false }
def FnShapeJoinSaid : Prop := fnShapeJoinRow.holds Try.pinned (OpenSpec.ofChange fnShapeJoinSpec)

/-- ITS FALSE NEIGHBOUR: 'it returns false'. Refute it at one input. -/
def fnShapeJoinWrong : ChangeSpec := { name := "fnShapeJoin", fn := fun _ => fun
  | [d1, d2] => { results := [.lit (.bool false)], args := [d1, d2] }
  | _ => none }
def FnShapeJoinWrongFalsely : Prop := fnShapeJoinRow.holds Try.pinned (OpenSpec.ofChange fnShapeJoinWrong)

/-- 'laws.FnObjsGet': WHATEVER THE INPUT: true; the input reads as it did. -/
def fnObjsGetSpec : ChangeSpec := { name := "fnObjsGet", fn := fun _ => fun
  | [d] => { results := [.lit (.bool true)], args := [d] }
  | _ => none }
def fnObjsGetRow : OpenClaim := { program := "ytnjbgkmmfndmeaa", sum := "571c4c5b994b8df19cd6145f8ee3fa4843a8eb09b15b8faf85d686e2a9e496dd", func := "loop.example/entail/laws.FnObjsGet", spec := "fnObjsGet", unfollowed := true, recurses := true, apart := false }
def FnObjsGetSaid : Prop := fnObjsGetRow.holds Try.pinned (OpenSpec.ofChange fnObjsGetSpec)

/-- ITS FALSE NEIGHBOUR: 'it returns false'. Refute it at one input. -/
def fnObjsGetWrong : ChangeSpec := { name := "fnObjsGet", fn := fun _ => fun
  | [d] => { results := [.lit (.bool false)], args := [d] }
  | _ => none }
def FnObjsGetWrongFalsely : Prop := fnObjsGetRow.holds Try.pinned (OpenSpec.ofChange fnObjsGetWrong)

/-- 'laws.FnPutCard': WHATEVER THE INPUT: true; the input reads as it did. -/
def fnPutCardSpec : ChangeSpec := { name := "fnPutCard", fn := fun _ => fun
  | [d] => { results := [.lit (.bool true)], args := [d] }
  | _ => none }
def fnPutCardRow : OpenClaim := { program := "ytnjbgkmmfndmeaa", sum := "571c4c5b994b8df19cd6145f8ee3fa4843a8eb09b15b8faf85d686e2a9e496dd", func := "loop.example/entail/laws.FnPutCard", spec := "fnPutCard", unfollowed := true, recurses := true, apart := false }
def FnPutCardSaid : Prop := fnPutCardRow.holds Try.pinned (OpenSpec.ofChange fnPutCardSpec)

/-- ITS FALSE NEIGHBOUR: 'it returns false'. Refute it at one input. -/
def fnPutCardWrong : ChangeSpec := { name := "fnPutCard", fn := fun _ => fun
  | [d] => { results := [.lit (.bool false)], args := [d] }
  | _ => none }
def FnPutCardWrongFalsely : Prop := fnPutCardRow.holds Try.pinned (OpenSpec.ofChange fnPutCardWrong)

/-- 'laws.FnMakeEmpty': WHATEVER THE INPUT: true; the input reads as it did. -/
def fnMakeEmptySpec : ChangeSpec := { name := "fnMakeEmpty", fn := fun _ => fun
  | [d] => { results := [.lit (.bool true)], args := [d] }
  | _ => none }
def fnMakeEmptyRow : OpenClaim := { program := "ytnjbgkmmfndmeaa", sum := "571c4c5b994b8df19cd6145f8ee3fa4843a8eb09b15b8faf85d686e2a9e496dd", func := "loop.example/entail/laws.FnMakeEmpty", spec := "fnMakeEmpty", inPlace := ["slices.overlaps[int]"], unfollowed := true, recurses := true, apart := false }
def FnMakeEmptySaid : Prop := fnMakeEmptyRow.holds Try.pinned (OpenSpec.ofChange fnMakeEmptySpec)

/-- ITS FALSE NEIGHBOUR: 'it returns false'. Refute it at one input. -/
def fnMakeEmptyWrong : ChangeSpec := { name := "fnMakeEmpty", fn := fun _ => fun
  | [d] => { results := [.lit (.bool false)], args := [d] }
  | _ => none }
def FnMakeEmptyWrongFalsely : Prop := fnMakeEmptyRow.holds Try.pinned (OpenSpec.ofChange fnMakeEmptyWrong)

/- THE SECOND FORM. 'bulk': how many values and letters a reading holds, each counted each time it is reached (what is shared counts as often as it is met; a slice's spare places count too). A statement '..UptoSaid' is the law's where the arguments, and the package variables that the reading takes, are together of bulk at most 1048576: NARROWER than '..Said'. Prove '..Said' where nothing that the law and all that it calls make is longer than what came in: it says more and counts as full. Else prove '..UptoSaid'. A law counts once. -/
mutual
def uptoBulk {H : Type} : DataW H → Nat
  | .lit (.string bytes) => bytes.length + 1
  | .lit _ => 1
  | .nil => 1
  | .ptr d => uptoBulk d + 1
  | .slice elems spare => uptoBulkAll elems + uptoBulkAll spare + 1
  | .agg parts => uptoBulkAll parts + 1
  | .iface _ d => uptoBulk d + 1
  | .map entries => uptoBulkEntries entries + 1
  | .held _ => 1
def uptoBulkAll {H : Type} : List (DataW H) → Nat
  | [] => 0
  | d :: r => uptoBulk d + uptoBulkAll r
def uptoBulkEntries {H : Type} : List (Lit × DataW H) → Nat
  | [] => 0
  | x :: r => uptoBulkEntry x + uptoBulkEntries r
def uptoBulkEntry {H : Type} : Lit × DataW H → Nat
  | (.string bytes, d) => bytes.length + uptoBulk d + 1
  | (_, d) => uptoBulk d + 1
 end
def uptoSmall : (H : Type) → List (DataW H) → Bool := fun _ ds => decide (uptoBulkAll ds ≤ 1048576)
def OpenSpec.upto (s : _root_.Go.ChangeSpec) : _root_.Go.OpenSpec := { _root_.Go.OpenSpec.ofChange s with cond := some uptoSmall }

/-- 'laws.FnTypeJoin', WHERE WHAT IT READS IS OF BULK AT MOST 1048576: true; the input reads as it did. -/
def fnTypeJoinUptoRow : OpenClaim := { program := "ytnjbgkmmfndmeaa", sum := "571c4c5b994b8df19cd6145f8ee3fa4843a8eb09b15b8faf85d686e2a9e496dd", func := "loop.example/entail/laws.FnTypeJoin", spec := "fnTypeJoin", unfollowed := true, recurses := true, apart := false, narrowed := true }
def FnTypeJoinUptoSaid : Prop := fnTypeJoinUptoRow.holds Try.pinned (OpenSpec.upto fnTypeJoinSpec)

/-- 'laws.FnExactShapeJoin', WHERE WHAT IT READS IS OF BULK AT MOST 1048576: true; the input reads as it did. -/
def fnExactShapeJoinUptoRow : OpenClaim := { program := "ytnjbgkmmfndmeaa", sum := "571c4c5b994b8df19cd6145f8ee3fa4843a8eb09b15b8faf85d686e2a9e496dd", func := "loop.example/entail/laws.FnExactShapeJoin", spec := "fnExactShapeJoin", unfollowed := true, recurses := true, apart := false, narrowed := true }
def FnExactShapeJoinUptoSaid : Prop := fnExactShapeJoinUptoRow.holds Try.pinned (OpenSpec.upto fnExactShapeJoinSpec)

/-- 'laws.FnShapeJoin', WHERE WHAT IT READS IS OF BULK AT MOST 1048576: true; the input reads as it did. -/
def fnShapeJoinUptoRow : OpenClaim := { program := "ytnjbgkmmfndmeaa", sum := "571c4c5b994b8df19cd6145f8ee3fa4843a8eb09b15b8faf85d686e2a9e496dd", func := "loop.example/entail/laws.FnShapeJoin", spec := "fnShapeJoin", unfollowed := true, recurses := true, apart := false, narrowed := true }
def FnShapeJoinUptoSaid : Prop := fnShapeJoinUptoRow.holds Try.pinned (OpenSpec.upto fnShapeJoinSpec)

/-- 'laws.FnObjsGet', WHERE WHAT IT READS IS OF BULK AT MOST 1048576: true; the input reads as it did. -/
def fnObjsGetUptoRow : OpenClaim := { program := "ytnjbgkmmfndmeaa", sum := "571c4c5b994b8df19cd6145f8ee3fa4843a8eb09b15b8faf85d686e2a9e496dd", func := "loop.example/entail/laws.FnObjsGet", spec := "fnObjsGet", unfollowed := true, recurses := true, apart := false, narrowed := true }
def FnObjsGetUptoSaid : Prop := fnObjsGetUptoRow.holds Try.pinned (OpenSpec.upto fnObjsGetSpec)

/-- 'laws.FnPutCard', WHERE WHAT IT READS IS OF BULK AT MOST 1048576: true; the input reads as it did. -/
def fnPutCardUptoRow : OpenClaim := { program := "ytnjbgkmmfndmeaa", sum := "571c4c5b994b8df19cd6145f8ee3fa4843a8eb09b15b8faf85d686e2a9e496dd", func := "loop.example/entail/laws.FnPutCard", spec := "fnPutCard", unfollowed := true, recurses := true, apart := false, narrowed := true }
def FnPutCardUptoSaid : Prop := fnPutCardUptoRow.holds Try.pinned (OpenSpec.upto fnPutCardSpec)

/-- 'laws.FnMakeEmpty', WHERE WHAT IT READS IS OF BULK AT MOST 1048576: true; the input reads as it did. -/
def fnMakeEmptyUptoRow : OpenClaim := { program := "ytnjbgkmmfndmeaa", sum := "571c4c5b994b8df19cd6145f8ee3fa4843a8eb09b15b8faf85d686e2a9e496dd", func := "loop.example/entail/laws.FnMakeEmpty", spec := "fnMakeEmpty", inPlace := ["slices.overlaps[int]"], unfollowed := true, recurses := true, apart := false, narrowed := true }
def FnMakeEmptyUptoSaid : Prop := fnMakeEmptyUptoRow.holds Try.pinned (OpenSpec.upto fnMakeEmptySpec)

end Rows
end Go.Proofs.Ytnjbgkmmfndmeaa
