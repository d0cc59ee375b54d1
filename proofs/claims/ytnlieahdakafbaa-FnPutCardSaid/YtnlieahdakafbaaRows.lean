/-
  No cell of these rows narrows 'for every input' (looked for: loops, veiled, ifaces, maps, wideKeys, modest, calm, conditions, laid).
  DERIVED. THE GIVEN ROWS OF THIS SEAT. 7 by the template 'for every input the law returns true; each argument reads behind the call as it read before'; 0 by the template 'total and deterministic' (their statements: YtnlieahdakafbaaTotals.lean).
  GIVEN WITH THE SEED: the statements are not yours to turn. If you find one false, say at which input.
  Laid BY PROGRAM, IN A SANDBOX (cutbox-rows.mjs): the forced cells as the released guide's own fill.sh prints them over the translation 4d4936b972f69ab6… (all of the seat's roots in one cut). By AI agents, Wed Nov 11 2026. No macro, syntax, notation, axiom, sorry.
-/
import Derived.Test.YtnlieahdakafbaaChecked
import GoSem.Claim
import GoSem.ClaimJoined
import GoSem.ClaimMapViews
import Derived.JoinedTies
import Derived.KernelRfl
namespace Go.Proofs.Ytnlieahdakafbaa
/- THE CELL 'sum', in the pinned program and in every row, IS THE sha256 OF THE DUMP (.gsa) THAT YtnlieahdakafbaaProg.lean LOADS. Nothing in Lean hashes anything: it is a label: what it is worth is what the hold of that sum in a sandbox is worth. -/
noncomputable def Try.pinned : Pinned := { name := "ytnlieahdakafbaa", sum := "4d4936b972f69ab6bcdf4044ba7ed03484ac06d6fc1482cfde908b1c56d1c192", checked := Try.checked }
namespace Rows
def none {H : Type} : Left H := { results := [], args := [] }

/-- 'laws.FnPutNone': WHATEVER THE INPUT: true; the input reads as it did. -/
def fnPutNoneSpec : ChangeSpec := { name := "fnPutNone", fn := fun _ => fun
  | [d] => { results := [.lit (.bool true)], args := [d] }
  | _ => none }
def fnPutNoneRow : OpenClaim := { program := "ytnlieahdakafbaa", sum := "4d4936b972f69ab6bcdf4044ba7ed03484ac06d6fc1482cfde908b1c56d1c192", func := "loop.example/entail/laws.FnPutNone", spec := "fnPutNone", unfollowed := true, recurses := true, apart := false }
def FnPutNoneSaid : Prop := fnPutNoneRow.holds Try.pinned (OpenSpec.ofChange fnPutNoneSpec)

/-- ITS FALSE NEIGHBOUR: 'it returns false'. Refute it at one input. -/
def fnPutNoneWrong : ChangeSpec := { name := "fnPutNone", fn := fun _ => fun
  | [d] => { results := [.lit (.bool false)], args := [d] }
  | _ => none }
def FnPutNoneWrongFalsely : Prop := fnPutNoneRow.holds Try.pinned (OpenSpec.ofChange fnPutNoneWrong)

/-- 'laws.FnObjsGet': WHATEVER THE INPUT: true; the input reads as it did. -/
def fnObjsGetSpec : ChangeSpec := { name := "fnObjsGet", fn := fun _ => fun
  | [d] => { results := [.lit (.bool true)], args := [d] }
  | _ => none }
def fnObjsGetRow : OpenClaim := { program := "ytnlieahdakafbaa", sum := "4d4936b972f69ab6bcdf4044ba7ed03484ac06d6fc1482cfde908b1c56d1c192", func := "loop.example/entail/laws.FnObjsGet", spec := "fnObjsGet", unfollowed := true, recurses := true, apart := false }
def FnObjsGetSaid : Prop := fnObjsGetRow.holds Try.pinned (OpenSpec.ofChange fnObjsGetSpec)

/-- ITS FALSE NEIGHBOUR: 'it returns false'. Refute it at one input. -/
def fnObjsGetWrong : ChangeSpec := { name := "fnObjsGet", fn := fun _ => fun
  | [d] => { results := [.lit (.bool false)], args := [d] }
  | _ => none }
def FnObjsGetWrongFalsely : Prop := fnObjsGetRow.holds Try.pinned (OpenSpec.ofChange fnObjsGetWrong)

/-- 'laws.FnPutWalk': WHATEVER THE INPUT: true; the input reads as it did. -/
def fnPutWalkSpec : ChangeSpec := { name := "fnPutWalk", fn := fun _ => fun
  | [d] => { results := [.lit (.bool true)], args := [d] }
  | _ => none }
def fnPutWalkRow : OpenClaim := { program := "ytnlieahdakafbaa", sum := "4d4936b972f69ab6bcdf4044ba7ed03484ac06d6fc1482cfde908b1c56d1c192", func := "loop.example/entail/laws.FnPutWalk", spec := "fnPutWalk", unfollowed := true, recurses := true, apart := false }
def FnPutWalkSaid : Prop := fnPutWalkRow.holds Try.pinned (OpenSpec.ofChange fnPutWalkSpec)

/-- ITS FALSE NEIGHBOUR: 'it returns false'. Refute it at one input. -/
def fnPutWalkWrong : ChangeSpec := { name := "fnPutWalk", fn := fun _ => fun
  | [d] => { results := [.lit (.bool false)], args := [d] }
  | _ => none }
def FnPutWalkWrongFalsely : Prop := fnPutWalkRow.holds Try.pinned (OpenSpec.ofChange fnPutWalkWrong)

/-- 'laws.FnGetPut': WHATEVER THE INPUT: true; the input reads as it did. -/
def fnGetPutSpec : ChangeSpec := { name := "fnGetPut", fn := fun _ => fun
  | [d1, d2] => { results := [.lit (.bool true)], args := [d1, d2] }
  | _ => none }
def fnGetPutRow : OpenClaim := { program := "ytnlieahdakafbaa", sum := "4d4936b972f69ab6bcdf4044ba7ed03484ac06d6fc1482cfde908b1c56d1c192", func := "loop.example/entail/laws.FnGetPut", spec := "fnGetPut", unfollowed := true, recurses := true, apart := false }
def FnGetPutSaid : Prop := fnGetPutRow.holds Try.pinned (OpenSpec.ofChange fnGetPutSpec)

/-- ITS FALSE NEIGHBOUR: 'it returns false'. Refute it at one input. -/
def fnGetPutWrong : ChangeSpec := { name := "fnGetPut", fn := fun _ => fun
  | [d1, d2] => { results := [.lit (.bool false)], args := [d1, d2] }
  | _ => none }
def FnGetPutWrongFalsely : Prop := fnGetPutRow.holds Try.pinned (OpenSpec.ofChange fnGetPutWrong)

/-- 'laws.FnPutCard': WHATEVER THE INPUT: true; the input reads as it did. -/
def fnPutCardSpec : ChangeSpec := { name := "fnPutCard", fn := fun _ => fun
  | [d] => { results := [.lit (.bool true)], args := [d] }
  | _ => none }
def fnPutCardRow : OpenClaim := { program := "ytnlieahdakafbaa", sum := "4d4936b972f69ab6bcdf4044ba7ed03484ac06d6fc1482cfde908b1c56d1c192", func := "loop.example/entail/laws.FnPutCard", spec := "fnPutCard", unfollowed := true, recurses := true, apart := false }
def FnPutCardSaid : Prop := fnPutCardRow.holds Try.pinned (OpenSpec.ofChange fnPutCardSpec)

/-- ITS FALSE NEIGHBOUR: 'it returns false'. Refute it at one input. -/
def fnPutCardWrong : ChangeSpec := { name := "fnPutCard", fn := fun _ => fun
  | [d] => { results := [.lit (.bool false)], args := [d] }
  | _ => none }
def FnPutCardWrongFalsely : Prop := fnPutCardRow.holds Try.pinned (OpenSpec.ofChange fnPutCardWrong)

/-- 'laws.FnMakeRoom': WHATEVER THE INPUT: true; the input reads as it did. -/
def fnMakeRoomSpec : ChangeSpec := { name := "fnMakeRoom", fn := fun _ => fun
  | [d] => { results := [.lit (.bool true)], args := [d] }
  | _ => none }
def fnMakeRoomRow : OpenClaim := { program := "ytnlieahdakafbaa", sum := "4d4936b972f69ab6bcdf4044ba7ed03484ac06d6fc1482cfde908b1c56d1c192", func := "loop.example/entail/laws.FnMakeRoom", spec := "fnMakeRoom", inPlace := ["slices.overlaps[int]"], unfollowed := true, recurses := true, apart := false }
def FnMakeRoomSaid : Prop := fnMakeRoomRow.holds Try.pinned (OpenSpec.ofChange fnMakeRoomSpec)

/-- ITS FALSE NEIGHBOUR: 'it returns false'. Refute it at one input. -/
def fnMakeRoomWrong : ChangeSpec := { name := "fnMakeRoom", fn := fun _ => fun
  | [d] => { results := [.lit (.bool false)], args := [d] }
  | _ => none }
def FnMakeRoomWrongFalsely : Prop := fnMakeRoomRow.holds Try.pinned (OpenSpec.ofChange fnMakeRoomWrong)

/-- 'laws.FnMakeEmpty': WHATEVER THE INPUT: true; the input reads as it did. -/
def fnMakeEmptySpec : ChangeSpec := { name := "fnMakeEmpty", fn := fun _ => fun
  | [d] => { results := [.lit (.bool true)], args := [d] }
  | _ => none }
def fnMakeEmptyRow : OpenClaim := { program := "ytnlieahdakafbaa", sum := "4d4936b972f69ab6bcdf4044ba7ed03484ac06d6fc1482cfde908b1c56d1c192", func := "loop.example/entail/laws.FnMakeEmpty", spec := "fnMakeEmpty", inPlace := ["slices.overlaps[int]"], unfollowed := true, recurses := true, apart := false }
def FnMakeEmptySaid : Prop := fnMakeEmptyRow.holds Try.pinned (OpenSpec.ofChange fnMakeEmptySpec)

/-- ITS FALSE NEIGHBOUR: 'it returns false'. Refute it at one input. -/
def fnMakeEmptyWrong : ChangeSpec := { name := "fnMakeEmpty", fn := fun _ => fun
  | [d] => { results := [.lit (.bool false)], args := [d] }
  | _ => none }
def FnMakeEmptyWrongFalsely : Prop := fnMakeEmptyRow.holds Try.pinned (OpenSpec.ofChange fnMakeEmptyWrong)

/- THE SECOND FORM. 'bulk': how many values and letters a reading holds, each counted each time it is reached (what is shared counts as often as it is met; a slice's spare places count too). A statement '..UptoSaid' is the law's where the arguments, and the package variables that the reading takes, are together of bulk at most 1048576: NARROWER than '..Said'. Prove '..Said' where nothing that the law and all that it calls make is longer than what came in: it says more and counts as full. Else prove '..UptoSaid'. A law counts once. -/
mutual
def uptoBulk {H : Type} : DataW H → Nat
  | .lit (.string bytes) => bytes.length + 1
  | .lit _ => 1
  | .nil => 1
  | .ptr d => uptoBulk d + 1
  | .slice elems spare => uptoBulkAll elems + uptoBulkAll spare + 1
  | .agg parts => uptoBulkAll parts + 1
  | .iface _ d => uptoBulk d + 1
  | .map entries => uptoBulkEntries entries + 1
  | .held _ => 1
def uptoBulkAll {H : Type} : List (DataW H) → Nat
  | [] => 0
  | d :: r => uptoBulk d + uptoBulkAll r
def uptoBulkEntries {H : Type} : List (Lit × DataW H) → Nat
  | [] => 0
  | x :: r => uptoBulkEntry x + uptoBulkEntries r
def uptoBulkEntry {H : Type} : Lit × DataW H → Nat
  | (.string bytes, d) => bytes.length + uptoBulk d + 1
  | (_, d) => uptoBulk d + 1
 end
def uptoSmall : (H : Type) → List (DataW H) → Bool := fun _ ds => decide (uptoBulkAll ds ≤ 1048576)
def OpenSpec.upto (s : _root_.Go.ChangeSpec) : _root_.Go.OpenSpec := { _root_.Go.OpenSpec.ofChange s with cond := some uptoSmall }

/-- 'laws.FnPutNone', WHERE WHAT IT READS IS OF BULK AT MOST 1048576: true; the input reads as it did. -/
def fnPutNoneUptoRow : OpenClaim := { program := "ytnlieahdakafbaa", sum := "4d4936b972f69ab6bcdf4044ba7ed03484ac06d6fc1482cfde908b1c56d1c192", func := "loop.example/entail/laws.FnPutNone", spec := "fnPutNone", unfollowed := true, recurses := true, apart := false, narrowed := true }
def FnPutNoneUptoSaid : Prop := fnPutNoneUptoRow.holds Try.pinned (OpenSpec.upto fnPutNoneSpec)

/-- 'laws.FnObjsGet', WHERE WHAT IT READS IS OF BULK AT MOST 1048576: true; the input reads as it did. -/
def fnObjsGetUptoRow : OpenClaim := { program := "ytnlieahdakafbaa", sum := "4d4936b972f69ab6bcdf4044ba7ed03484ac06d6fc1482cfde908b1c56d1c192", func := "loop.example/entail/laws.FnObjsGet", spec := "fnObjsGet", unfollowed := true, recurses := true, apart := false, narrowed := true }
def FnObjsGetUptoSaid : Prop := fnObjsGetUptoRow.holds Try.pinned (OpenSpec.upto fnObjsGetSpec)

/-- 'laws.FnPutWalk', WHERE WHAT IT READS IS OF BULK AT MOST 1048576: true; the input reads as it did. -/
def fnPutWalkUptoRow : OpenClaim := { program := "ytnlieahdakafbaa", sum := "4d4936b972f69ab6bcdf4044ba7ed03484ac06d6fc1482cfde908b1c56d1c192", func := "loop.example/entail/laws.FnPutWalk", spec := "fnPutWalk", unfollowed := true, recurses := true, apart := false, narrowed := true }
def FnPutWalkUptoSaid : Prop := fnPutWalkUptoRow.holds Try.pinned (OpenSpec.upto fnPutWalkSpec)

/-- 'laws.FnGetPut', WHERE WHAT IT READS IS OF BULK AT MOST 1048576: true; the input reads as it did. -/
def fnGetPutUptoRow : OpenClaim := { program := "ytnlieahdakafbaa", sum := "4d4936b972f69ab6bcdf4044ba7ed03484ac06d6fc1482cfde908b1c56d1c192", func := "loop.example/entail/laws.FnGetPut", spec := "fnGetPut", unfollowed := true, recurses := true, apart := false, narrowed := true }
def FnGetPutUptoSaid : Prop := fnGetPutUptoRow.holds Try.pinned (OpenSpec.upto fnGetPutSpec)

/-- 'laws.FnPutCard', WHERE WHAT IT READS IS OF BULK AT MOST 1048576: true; the input reads as it did. -/
def fnPutCardUptoRow : OpenClaim := { program := "ytnlieahdakafbaa", sum := "4d4936b972f69ab6bcdf4044ba7ed03484ac06d6fc1482cfde908b1c56d1c192", func := "loop.example/entail/laws.FnPutCard", spec := "fnPutCard", unfollowed := true, recurses := true, apart := false, narrowed := true }
def FnPutCardUptoSaid : Prop := fnPutCardUptoRow.holds Try.pinned (OpenSpec.upto fnPutCardSpec)

/-- 'laws.FnMakeRoom', WHERE WHAT IT READS IS OF BULK AT MOST 1048576: true; the input reads as it did. -/
def fnMakeRoomUptoRow : OpenClaim := { program := "ytnlieahdakafbaa", sum := "4d4936b972f69ab6bcdf4044ba7ed03484ac06d6fc1482cfde908b1c56d1c192", func := "loop.example/entail/laws.FnMakeRoom", spec := "fnMakeRoom", inPlace := ["slices.overlaps[int]"], unfollowed := true, recurses := true, apart := false, narrowed := true }
def FnMakeRoomUptoSaid : Prop := fnMakeRoomUptoRow.holds Try.pinned (OpenSpec.upto fnMakeRoomSpec)

/-- 'laws.FnMakeEmpty', WHERE WHAT IT READS IS OF BULK AT MOST 1048576: true; the input reads as it did. -/
def fnMakeEmptyUptoRow : OpenClaim := { program := "ytnlieahdakafbaa", sum := "4d4936b972f69ab6bcdf4044ba7ed03484ac06d6fc1482cfde908b1c56d1c192", func := "loop.example/entail/laws.FnMakeEmpty", spec := "fnMakeEmpty", inPlace := ["slices.overlaps[int]"], unfollowed := true, recurses := true, apart := false, narrowed := true }
def FnMakeEmptyUptoSaid : Prop := fnMakeEmptyUptoRow.holds Try.pinned (OpenSpec.upto fnMakeEmptySpec)

end Rows
end Go.Proofs.Ytnlieahdakafbaa
