/-
  No cell of these rows narrows 'for every input' (looked for: loops, veiled, ifaces, maps, wideKeys, modest, calm, conditions, laid).
  DERIVED. THE GIVEN ROWS OF THIS SEAT. 4 by the template 'for every input the law returns true; each argument reads behind the call as it read before'; 0 by the template 'total and deterministic' (their statements: YtbaklikaoleplaaGreatTotals.lean).
  GIVEN WITH THE SEED: the statements are not yours to turn. If you find one false, say at which input.
  Laid BY PROGRAM, IN A SANDBOX (cutbox-rows.mjs): the forced cells as the released guide's own fill.sh prints them over the translation a98279947dfdbe7c… (all of the seat's roots in one cut). By AI agents, Wed Nov 11 2026. No macro, syntax, notation, axiom, sorry.
-/
import Derived.Test.YtbaklikaoleplaaGreatChecked
import GoSem.Claim
import GoSem.ClaimJoined
import GoSem.ClaimMapViews
import Derived.JoinedTies
import Derived.KernelRfl
namespace Go.Proofs.YtbaklikaoleplaaGreat
/- THE CELL 'sum', in the pinned program and in every row, IS THE sha256 OF THE DUMP (.gsa) THAT YtbaklikaoleplaaGreatProg.lean LOADS. Nothing in Lean hashes anything: it is a label: what it is worth is what the hold of that sum in a sandbox is worth. -/
noncomputable def Tryz.pinned : Pinned := { name := "ytbaklikaoleplaagreat", sum := "a98279947dfdbe7c140e258dc4924f72d106ef0a862e359f43750e722e5c4ff6", checked := Tryz.checked }
namespace Rows
def none {H : Type} : Left H := { results := [], args := [] }

/-- 'laws.FnMinorSame': WHATEVER THE INPUT: true; the input reads as it did. -/
def fnMinorSameSpec : ChangeSpec := { name := "fnMinorSame", fn := fun _ => fun
  | [d] => { results := [.lit (.bool true)], args := [d] }
  | _ => none }
def fnMinorSameRow : OpenClaim := { program := "ytbaklikaoleplaagreat", sum := "a98279947dfdbe7c140e258dc4924f72d106ef0a862e359f43750e722e5c4ff6", func := "loop.example/entail/laws.FnMinorSame", spec := "fnMinorSame", unfollowed := true, recurses := true, apart := false }
def FnMinorSameSaid : Prop := fnMinorSameRow.holds Tryz.pinned (OpenSpec.ofChange fnMinorSameSpec)

/-- ITS FALSE NEIGHBOUR: 'it returns false'. Refute it at one input. -/
def fnMinorSameWrong : ChangeSpec := { name := "fnMinorSame", fn := fun _ => fun
  | [d] => { results := [.lit (.bool false)], args := [d] }
  | _ => none }
def FnMinorSameWrongFalsely : Prop := fnMinorSameRow.holds Tryz.pinned (OpenSpec.ofChange fnMinorSameWrong)

/-- 'laws.FnExactGcLive': WHATEVER THE INPUT: true; the input reads as it did. -/
def fnExactGcLiveSpec : ChangeSpec := { name := "fnExactGcLive", fn := fun _ => fun
  | [d1, d2, d3] => { results := [.lit (.bool true)], args := [d1, d2, d3] }
  | _ => none }
def fnExactGcLiveRow : OpenClaim := { program := "ytbaklikaoleplaagreat", sum := "a98279947dfdbe7c140e258dc4924f72d106ef0a862e359f43750e722e5c4ff6", func := "loop.example/entail/laws.FnExactGcLive", spec := "fnExactGcLive", unfollowed := true, recurses := true, apart := false }
def FnExactGcLiveSaid : Prop := fnExactGcLiveRow.holds Tryz.pinned (OpenSpec.ofChange fnExactGcLiveSpec)

/-- ITS FALSE NEIGHBOUR: 'it returns false'. Refute it at one input. -/
def fnExactGcLiveWrong : ChangeSpec := { name := "fnExactGcLive", fn := fun _ => fun
  | [d1, d2, d3] => { results := [.lit (.bool false)], args := [d1, d2, d3] }
  | _ => none }
def FnExactGcLiveWrongFalsely : Prop := fnExactGcLiveRow.holds Tryz.pinned (OpenSpec.ofChange fnExactGcLiveWrong)

/-- 'laws.FnLiveLed': WHATEVER THE INPUT: true; the input reads as it did. -/
def fnLiveLedSpec : ChangeSpec := { name := "fnLiveLed", fn := fun _ => fun
  | [d] => { results := [.lit (.bool true)], args := [d] }
  | _ => none }
def fnLiveLedRow : OpenClaim := { program := "ytbaklikaoleplaagreat", sum := "a98279947dfdbe7c140e258dc4924f72d106ef0a862e359f43750e722e5c4ff6", func := "loop.example/entail/laws.FnLiveLed", spec := "fnLiveLed", unfollowed := true, recurses := true, apart := false }
def FnLiveLedSaid : Prop := fnLiveLedRow.holds Tryz.pinned (OpenSpec.ofChange fnLiveLedSpec)

/-- ITS FALSE NEIGHBOUR: 'it returns false'. Refute it at one input. -/
def fnLiveLedWrong : ChangeSpec := { name := "fnLiveLed", fn := fun _ => fun
  | [d] => { results := [.lit (.bool false)], args := [d] }
  | _ => none }
def FnLiveLedWrongFalsely : Prop := fnLiveLedRow.holds Tryz.pinned (OpenSpec.ofChange fnLiveLedWrong)

/-- 'laws.FnExactGcMajor': WHATEVER THE INPUT: true; the input reads as it did. -/
def fnExactGcMajorSpec : ChangeSpec := { name := "fnExactGcMajor", fn := fun _ => fun
  | [d1, d2, d3] => { results := [.lit (.bool true)], args := [d1, d2, d3] }
  | _ => none }
def fnExactGcMajorRow : OpenClaim := { program := "ytbaklikaoleplaagreat", sum := "a98279947dfdbe7c140e258dc4924f72d106ef0a862e359f43750e722e5c4ff6", func := "loop.example/entail/laws.FnExactGcMajor", spec := "fnExactGcMajor", unfollowed := true, recurses := true, apart := false }
def FnExactGcMajorSaid : Prop := fnExactGcMajorRow.holds Tryz.pinned (OpenSpec.ofChange fnExactGcMajorSpec)

/-- ITS FALSE NEIGHBOUR: 'it returns false'. Refute it at one input. -/
def fnExactGcMajorWrong : ChangeSpec := { name := "fnExactGcMajor", fn := fun _ => fun
  | [d1, d2, d3] => { results := [.lit (.bool false)], args := [d1, d2, d3] }
  | _ => none }
def FnExactGcMajorWrongFalsely : Prop := fnExactGcMajorRow.holds Tryz.pinned (OpenSpec.ofChange fnExactGcMajorWrong)

/- THE SECOND FORM. 'bulk': how many values and letters a reading holds, each counted each time it is reached (what is shared counts as often as it is met; a slice's spare places count too). A statement '..UptoSaid' is the law's where the arguments, and the package variables that the reading takes, are together of bulk at most 1048576: NARROWER than '..Said'. Prove '..Said' where nothing that the law and all that it calls make is longer than what came in: it says more and counts as full. Else prove '..UptoSaid'. A law counts once. -/
mutual
def uptoBulk {H : Type} : DataW H → Nat
  | .lit (.string bytes) => bytes.length + 1
  | .lit _ => 1
  | .nil => 1
  | .ptr d => uptoBulk d + 1
  | .slice elems spare => uptoBulkAll elems + uptoBulkAll spare + 1
  | .agg parts => uptoBulkAll parts + 1
  | .iface _ d => uptoBulk d + 1
  | .map entries => uptoBulkEntries entries + 1
  | .held _ => 1
def uptoBulkAll {H : Type} : List (DataW H) → Nat
  | [] => 0
  | d :: r => uptoBulk d + uptoBulkAll r
def uptoBulkEntries {H : Type} : List (Lit × DataW H) → Nat
  | [] => 0
  | x :: r => uptoBulkEntry x + uptoBulkEntries r
def uptoBulkEntry {H : Type} : Lit × DataW H → Nat
  | (.string bytes, d) => bytes.length + uptoBulk d + 1
  | (_, d) => uptoBulk d + 1
 end
def uptoSmall : (H : Type) → List (DataW H) → Bool := fun _ ds => decide (uptoBulkAll ds ≤ 1048576)
def OpenSpec.upto (s : _root_.Go.ChangeSpec) : _root_.Go.OpenSpec := { _root_.Go.OpenSpec.ofChange s with cond := some uptoSmall }

/-- 'laws.FnMinorSame', WHERE WHAT IT READS IS OF BULK AT MOST 1048576: true; the input reads as it did. -/
def fnMinorSameUptoRow : OpenClaim := { program := "ytbaklikaoleplaagreat", sum := "a98279947dfdbe7c140e258dc4924f72d106ef0a862e359f43750e722e5c4ff6", func := "loop.example/entail/laws.FnMinorSame", spec := "fnMinorSame", unfollowed := true, recurses := true, apart := false, narrowed := true }
def FnMinorSameUptoSaid : Prop := fnMinorSameUptoRow.holds Tryz.pinned (OpenSpec.upto fnMinorSameSpec)

/-- 'laws.FnExactGcLive', WHERE WHAT IT READS IS OF BULK AT MOST 1048576: true; the input reads as it did. -/
def fnExactGcLiveUptoRow : OpenClaim := { program := "ytbaklikaoleplaagreat", sum := "a98279947dfdbe7c140e258dc4924f72d106ef0a862e359f43750e722e5c4ff6", func := "loop.example/entail/laws.FnExactGcLive", spec := "fnExactGcLive", unfollowed := true, recurses := true, apart := false, narrowed := true }
def FnExactGcLiveUptoSaid : Prop := fnExactGcLiveUptoRow.holds Tryz.pinned (OpenSpec.upto fnExactGcLiveSpec)

/-- 'laws.FnLiveLed', WHERE WHAT IT READS IS OF BULK AT MOST 1048576: true; the input reads as it did. -/
def fnLiveLedUptoRow : OpenClaim := { program := "ytbaklikaoleplaagreat", sum := "a98279947dfdbe7c140e258dc4924f72d106ef0a862e359f43750e722e5c4ff6", func := "loop.example/entail/laws.FnLiveLed", spec := "fnLiveLed", unfollowed := true, recurses := true, apart := false, narrowed := true }
def FnLiveLedUptoSaid : Prop := fnLiveLedUptoRow.holds Tryz.pinned (OpenSpec.upto fnLiveLedSpec)

/-- 'laws.FnExactGcMajor', WHERE WHAT IT READS IS OF BULK AT MOST 1048576: true; the input reads as it did. -/
def fnExactGcMajorUptoRow : OpenClaim := { program := "ytbaklikaoleplaagreat", sum := "a98279947dfdbe7c140e258dc4924f72d106ef0a862e359f43750e722e5c4ff6", func := "loop.example/entail/laws.FnExactGcMajor", spec := "fnExactGcMajor", unfollowed := true, recurses := true, apart := false, narrowed := true }
def FnExactGcMajorUptoSaid : Prop := fnExactGcMajorUptoRow.holds Tryz.pinned (OpenSpec.upto fnExactGcMajorSpec)

end Rows
end Go.Proofs.YtbaklikaoleplaaGreat
