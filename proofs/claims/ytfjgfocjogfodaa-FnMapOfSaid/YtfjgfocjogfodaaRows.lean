/-
  No cell of these rows narrows 'for every input' (looked for: loops, veiled, ifaces, maps, wideKeys, modest, calm, conditions, laid).
  DERIVED. THE GIVEN ROWS OF THIS SEAT. 6 by the template 'for every input the law returns true; each argument reads behind the call as it read before'; 0 by the template 'total and deterministic' (their statements: YtfjgfocjogfodaaTotals.lean).
  GIVEN WITH THE SEED: the statements are not yours to turn. If you find one false, say at which input.
  Laid BY PROGRAM, IN A SANDBOX (cutbox-rows.mjs): the forced cells as the released guide's own fill.sh prints them over the translation 29e7741b4c0d9c72… (all of the seat's roots in one cut). By AI agents, Wed Nov 11 2026. No macro, syntax, notation, axiom, sorry.
-/
import Derived.Test.YtfjgfocjogfodaaChecked
import GoSem.Claim
import GoSem.ClaimJoined
import GoSem.ClaimMapViews
import Derived.JoinedTies
import Derived.KernelRfl
namespace Go.Proofs.Ytfjgfocjogfodaa
/- THE CELL 'sum', in the pinned program and in every row, IS THE sha256 OF THE DUMP (.gsa) THAT YtfjgfocjogfodaaProg.lean LOADS. Nothing in Lean hashes anything: it is a label: what it is worth is what the hold of that sum in a sandbox is worth. -/
noncomputable def Try.pinned : Pinned := { name := "ytfjgfocjogfodaa", sum := "29e7741b4c0d9c727d518df120bcb7757b20a214ffa1c0725de5f66fb28eb2fb", checked := Try.checked }
namespace Rows
def none {H : Type} : Left H := { results := [], args := [] }

/-- 'laws.FnDeficiencyOf': WHATEVER THE INPUT: true; the input reads as it did. -/
def fnDeficiencyOfSpec : ChangeSpec := { name := "fnDeficiencyOf", fn := fun _ => fun
  | [d] => { results := [.lit (.bool true)], args := [d] }
  | _ => none }
def fnDeficiencyOfRow : OpenClaim := { program := "ytfjgfocjogfodaa", sum := "29e7741b4c0d9c727d518df120bcb7757b20a214ffa1c0725de5f66fb28eb2fb", func := "loop.example/degreeswaps/laws.FnDeficiencyOf", spec := "fnDeficiencyOf", unfollowed := true, recurses := true, apart := false }
def FnDeficiencyOfSaid : Prop := fnDeficiencyOfRow.holds Try.pinned (OpenSpec.ofChange fnDeficiencyOfSpec)

/-- ITS FALSE NEIGHBOUR: 'it returns false'. Refute it at one input. -/
def fnDeficiencyOfWrong : ChangeSpec := { name := "fnDeficiencyOf", fn := fun _ => fun
  | [d] => { results := [.lit (.bool false)], args := [d] }
  | _ => none }
def FnDeficiencyOfWrongFalsely : Prop := fnDeficiencyOfRow.holds Try.pinned (OpenSpec.ofChange fnDeficiencyOfWrong)

/-- 'laws.FnOddParts': WHATEVER THE INPUT: true; the input reads as it did. -/
def fnOddPartsSpec : ChangeSpec := { name := "fnOddParts", fn := fun _ => fun
  | [d] => { results := [.lit (.bool true)], args := [d] }
  | _ => none }
def fnOddPartsRow : OpenClaim := { program := "ytfjgfocjogfodaa", sum := "29e7741b4c0d9c727d518df120bcb7757b20a214ffa1c0725de5f66fb28eb2fb", func := "loop.example/degreeswaps/laws.FnOddParts", spec := "fnOddParts", unfollowed := true, recurses := true, apart := false }
def FnOddPartsSaid : Prop := fnOddPartsRow.holds Try.pinned (OpenSpec.ofChange fnOddPartsSpec)

/-- ITS FALSE NEIGHBOUR: 'it returns false'. Refute it at one input. -/
def fnOddPartsWrong : ChangeSpec := { name := "fnOddParts", fn := fun _ => fun
  | [d] => { results := [.lit (.bool false)], args := [d] }
  | _ => none }
def FnOddPartsWrongFalsely : Prop := fnOddPartsRow.holds Try.pinned (OpenSpec.ofChange fnOddPartsWrong)

/-- 'laws.FnForcedEdges': WHATEVER THE INPUT: true; the input reads as it did. -/
def fnForcedEdgesSpec : ChangeSpec := { name := "fnForcedEdges", fn := fun _ => fun
  | [d] => { results := [.lit (.bool true)], args := [d] }
  | _ => none }
def fnForcedEdgesRow : OpenClaim := { program := "ytfjgfocjogfodaa", sum := "29e7741b4c0d9c727d518df120bcb7757b20a214ffa1c0725de5f66fb28eb2fb", func := "loop.example/degreeswaps/laws.FnForcedEdges", spec := "fnForcedEdges", unfollowed := true, recurses := true, apart := false }
def FnForcedEdgesSaid : Prop := fnForcedEdgesRow.holds Try.pinned (OpenSpec.ofChange fnForcedEdgesSpec)

/-- ITS FALSE NEIGHBOUR: 'it returns false'. Refute it at one input. -/
def fnForcedEdgesWrong : ChangeSpec := { name := "fnForcedEdges", fn := fun _ => fun
  | [d] => { results := [.lit (.bool false)], args := [d] }
  | _ => none }
def FnForcedEdgesWrongFalsely : Prop := fnForcedEdgesRow.holds Try.pinned (OpenSpec.ofChange fnForcedEdgesWrong)

/-- 'laws.FnFactorOf': WHATEVER THE INPUT: true; the input reads as it did. -/
def fnFactorOfSpec : ChangeSpec := { name := "fnFactorOf", fn := fun _ => fun
  | [d] => { results := [.lit (.bool true)], args := [d] }
  | _ => none }
def fnFactorOfRow : OpenClaim := { program := "ytfjgfocjogfodaa", sum := "29e7741b4c0d9c727d518df120bcb7757b20a214ffa1c0725de5f66fb28eb2fb", func := "loop.example/degreeswaps/laws.FnFactorOf", spec := "fnFactorOf", unfollowed := true, recurses := true, apart := false }
def FnFactorOfSaid : Prop := fnFactorOfRow.holds Try.pinned (OpenSpec.ofChange fnFactorOfSpec)

/-- ITS FALSE NEIGHBOUR: 'it returns false'. Refute it at one input. -/
def fnFactorOfWrong : ChangeSpec := { name := "fnFactorOf", fn := fun _ => fun
  | [d] => { results := [.lit (.bool false)], args := [d] }
  | _ => none }
def FnFactorOfWrongFalsely : Prop := fnFactorOfRow.holds Try.pinned (OpenSpec.ofChange fnFactorOfWrong)

/-- 'laws.FnMapOf': WHATEVER THE INPUT: true; the input reads as it did. -/
def fnMapOfSpec : ChangeSpec := { name := "fnMapOf", fn := fun _ => fun
  | [d] => { results := [.lit (.bool true)], args := [d] }
  | _ => none }
def fnMapOfRow : OpenClaim := { program := "ytfjgfocjogfodaa", sum := "29e7741b4c0d9c727d518df120bcb7757b20a214ffa1c0725de5f66fb28eb2fb", func := "loop.example/degreeswaps/laws.FnMapOf", spec := "fnMapOf", unfollowed := true, recurses := true, apart := false }
def FnMapOfSaid : Prop := fnMapOfRow.holds Try.pinned (OpenSpec.ofChange fnMapOfSpec)

/-- ITS FALSE NEIGHBOUR: 'it returns false'. Refute it at one input. -/
def fnMapOfWrong : ChangeSpec := { name := "fnMapOf", fn := fun _ => fun
  | [d] => { results := [.lit (.bool false)], args := [d] }
  | _ => none }
def FnMapOfWrongFalsely : Prop := fnMapOfRow.holds Try.pinned (OpenSpec.ofChange fnMapOfWrong)

/-- 'laws.FnPackDegrees': WHATEVER THE INPUT: true; the input reads as it did. -/
def fnPackDegreesSpec : ChangeSpec := { name := "fnPackDegrees", fn := fun _ => fun
  | [d] => { results := [.lit (.bool true)], args := [d] }
  | _ => none }
def fnPackDegreesRow : OpenClaim := { program := "ytfjgfocjogfodaa", sum := "29e7741b4c0d9c727d518df120bcb7757b20a214ffa1c0725de5f66fb28eb2fb", func := "loop.example/degreeswaps/laws.FnPackDegrees", spec := "fnPackDegrees", unfollowed := true, recurses := true, apart := false }
def FnPackDegreesSaid : Prop := fnPackDegreesRow.holds Try.pinned (OpenSpec.ofChange fnPackDegreesSpec)

/-- ITS FALSE NEIGHBOUR: 'it returns false'. Refute it at one input. -/
def fnPackDegreesWrong : ChangeSpec := { name := "fnPackDegrees", fn := fun _ => fun
  | [d] => { results := [.lit (.bool false)], args := [d] }
  | _ => none }
def FnPackDegreesWrongFalsely : Prop := fnPackDegreesRow.holds Try.pinned (OpenSpec.ofChange fnPackDegreesWrong)

/- THE SECOND FORM. 'bulk': how many values and letters a reading holds, each counted each time it is reached (what is shared counts as often as it is met; a slice's spare places count too). A statement '..UptoSaid' is the law's where the arguments, and the package variables that the reading takes, are together of bulk at most 1048576: NARROWER than '..Said'. Prove '..Said' where nothing that the law and all that it calls make is longer than what came in: it says more and counts as full. Else prove '..UptoSaid'. A law counts once. -/
mutual
def uptoBulk {H : Type} : DataW H → Nat
  | .lit (.string bytes) => bytes.length + 1
  | .lit _ => 1
  | .nil => 1
  | .ptr d => uptoBulk d + 1
  | .slice elems spare => uptoBulkAll elems + uptoBulkAll spare + 1
  | .agg parts => uptoBulkAll parts + 1
  | .iface _ d => uptoBulk d + 1
  | .map entries => uptoBulkEntries entries + 1
  | .held _ => 1
def uptoBulkAll {H : Type} : List (DataW H) → Nat
  | [] => 0
  | d :: r => uptoBulk d + uptoBulkAll r
def uptoBulkEntries {H : Type} : List (Lit × DataW H) → Nat
  | [] => 0
  | x :: r => uptoBulkEntry x + uptoBulkEntries r
def uptoBulkEntry {H : Type} : Lit × DataW H → Nat
  | (.string bytes, d) => bytes.length + uptoBulk d + 1
  | (_, d) => uptoBulk d + 1
 end
def uptoSmall : (H : Type) → List (DataW H) → Bool := fun _ ds => decide (uptoBulkAll ds ≤ 1048576)
def OpenSpec.upto (s : _root_.Go.ChangeSpec) : _root_.Go.OpenSpec := { _root_.Go.OpenSpec.ofChange s with cond := some uptoSmall }

/-- 'laws.FnDeficiencyOf', WHERE WHAT IT READS IS OF BULK AT MOST 1048576: true; the input reads as it did. -/
def fnDeficiencyOfUptoRow : OpenClaim := { program := "ytfjgfocjogfodaa", sum := "29e7741b4c0d9c727d518df120bcb7757b20a214ffa1c0725de5f66fb28eb2fb", func := "loop.example/degreeswaps/laws.FnDeficiencyOf", spec := "fnDeficiencyOf", unfollowed := true, recurses := true, apart := false, narrowed := true }
def FnDeficiencyOfUptoSaid : Prop := fnDeficiencyOfUptoRow.holds Try.pinned (OpenSpec.upto fnDeficiencyOfSpec)

/-- 'laws.FnOddParts', WHERE WHAT IT READS IS OF BULK AT MOST 1048576: true; the input reads as it did. -/
def fnOddPartsUptoRow : OpenClaim := { program := "ytfjgfocjogfodaa", sum := "29e7741b4c0d9c727d518df120bcb7757b20a214ffa1c0725de5f66fb28eb2fb", func := "loop.example/degreeswaps/laws.FnOddParts", spec := "fnOddParts", unfollowed := true, recurses := true, apart := false, narrowed := true }
def FnOddPartsUptoSaid : Prop := fnOddPartsUptoRow.holds Try.pinned (OpenSpec.upto fnOddPartsSpec)

/-- 'laws.FnForcedEdges', WHERE WHAT IT READS IS OF BULK AT MOST 1048576: true; the input reads as it did. -/
def fnForcedEdgesUptoRow : OpenClaim := { program := "ytfjgfocjogfodaa", sum := "29e7741b4c0d9c727d518df120bcb7757b20a214ffa1c0725de5f66fb28eb2fb", func := "loop.example/degreeswaps/laws.FnForcedEdges", spec := "fnForcedEdges", unfollowed := true, recurses := true, apart := false, narrowed := true }
def FnForcedEdgesUptoSaid : Prop := fnForcedEdgesUptoRow.holds Try.pinned (OpenSpec.upto fnForcedEdgesSpec)

/-- 'laws.FnFactorOf', WHERE WHAT IT READS IS OF BULK AT MOST 1048576: true; the input reads as it did. -/
def fnFactorOfUptoRow : OpenClaim := { program := "ytfjgfocjogfodaa", sum := "29e7741b4c0d9c727d518df120bcb7757b20a214ffa1c0725de5f66fb28eb2fb", func := "loop.example/degreeswaps/laws.FnFactorOf", spec := "fnFactorOf", unfollowed := true, recurses := true, apart := false, narrowed := true }
def FnFactorOfUptoSaid : Prop := fnFactorOfUptoRow.holds Try.pinned (OpenSpec.upto fnFactorOfSpec)

/-- 'laws.FnMapOf', WHERE WHAT IT READS IS OF BULK AT MOST 1048576: true; the input reads as it did. -/
def fnMapOfUptoRow : OpenClaim := { program := "ytfjgfocjogfodaa", sum := "29e7741b4c0d9c727d518df120bcb7757b20a214ffa1c0725de5f66fb28eb2fb", func := "loop.example/degreeswaps/laws.FnMapOf", spec := "fnMapOf", unfollowed := true, recurses := true, apart := false, narrowed := true }
def FnMapOfUptoSaid : Prop := fnMapOfUptoRow.holds Try.pinned (OpenSpec.upto fnMapOfSpec)

/-- 'laws.FnPackDegrees', WHERE WHAT IT READS IS OF BULK AT MOST 1048576: true; the input reads as it did. -/
def fnPackDegreesUptoRow : OpenClaim := { program := "ytfjgfocjogfodaa", sum := "29e7741b4c0d9c727d518df120bcb7757b20a214ffa1c0725de5f66fb28eb2fb", func := "loop.example/degreeswaps/laws.FnPackDegrees", spec := "fnPackDegrees", unfollowed := true, recurses := true, apart := false, narrowed := true }
def FnPackDegreesUptoSaid : Prop := fnPackDegreesUptoRow.holds Try.pinned (OpenSpec.upto fnPackDegreesSpec)

end Rows
end Go.Proofs.Ytfjgfocjogfodaa
