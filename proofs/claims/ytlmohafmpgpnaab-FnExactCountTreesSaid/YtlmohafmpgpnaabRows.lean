/-
  No cell of these rows narrows 'for every input' (looked for: loops, veiled, ifaces, maps, wideKeys, modest, calm, conditions, laid).
  DERIVED. THE GIVEN ROWS OF THIS SEAT. 7 by the template 'for every input the law returns true; each argument reads behind the call as it read before'; 0 by the template 'total and deterministic' (their statements: YtlmohafmpgpnaabTotals.lean).
  GIVEN WITH THE SEED: the statements are not yours to turn. If you find one false, say at which input.
  Laid BY PROGRAM, IN A SANDBOX (cutbox-rows.mjs): the forced cells as the released guide's own fill.sh prints them over the translation 19b9b3ffdc1659b4… (all of the seat's roots in one cut). By AI agents, Wed Nov 11 2026. No macro, syntax, notation, axiom, sorry.
-/
import Derived.Test.YtlmohafmpgpnaabChecked
import GoSem.Claim
import GoSem.ClaimJoined
import GoSem.ClaimMapViews
import Derived.JoinedTies
import Derived.KernelRfl
namespace Go.Proofs.Ytlmohafmpgpnaab
/- THE CELL 'sum', in the pinned program and in every row, IS THE sha256 OF THE DUMP (.gsa) THAT YtlmohafmpgpnaabProg.lean LOADS. Nothing in Lean hashes anything: it is a label: what it is worth is what the hold of that sum in a sandbox is worth. -/
noncomputable def Try.pinned : Pinned := { name := "ytlmohafmpgpnaab", sum := "19b9b3ffdc1659b4b9810f142ca185c53cad48562b0e028be00dda3adeac2a0b", checked := Try.checked }
namespace Rows
def none {H : Type} : Left H := { results := [], args := [] }

/-- 'laws.FnExactIsThreshold': WHATEVER THE INPUT: true; the input reads as it did. -/
def fnExactIsThresholdSpec : ChangeSpec := { name := "fnExactIsThreshold", fn := fun _ => fun
  | [d] => { results := [.lit (.bool true)], args := [d] }
  | _ => none }
def fnExactIsThresholdRow : OpenClaim := { program := "ytlmohafmpgpnaab", sum := "19b9b3ffdc1659b4b9810f142ca185c53cad48562b0e028be00dda3adeac2a0b", func := "loop.example/degreeswaps/laws.FnExactIsThreshold", spec := "fnExactIsThreshold", unfollowed := true, recurses := true, apart := false }
def FnExactIsThresholdSaid : Prop := fnExactIsThresholdRow.holds Try.pinned (OpenSpec.ofChange fnExactIsThresholdSpec)

/-- ITS FALSE NEIGHBOUR: 'it returns false'. Refute it at one input. -/
def fnExactIsThresholdWrong : ChangeSpec := { name := "fnExactIsThreshold", fn := fun _ => fun
  | [d] => { results := [.lit (.bool false)], args := [d] }
  | _ => none }
def FnExactIsThresholdWrongFalsely : Prop := fnExactIsThresholdRow.holds Try.pinned (OpenSpec.ofChange fnExactIsThresholdWrong)

/-- 'laws.FnExactIsBigraphic': WHATEVER THE INPUT: true; the input reads as it did. -/
def fnExactIsBigraphicSpec : ChangeSpec := { name := "fnExactIsBigraphic", fn := fun _ => fun
  | [d1, d2] => { results := [.lit (.bool true)], args := [d1, d2] }
  | _ => none }
def fnExactIsBigraphicRow : OpenClaim := { program := "ytlmohafmpgpnaab", sum := "19b9b3ffdc1659b4b9810f142ca185c53cad48562b0e028be00dda3adeac2a0b", func := "loop.example/degreeswaps/laws.FnExactIsBigraphic", spec := "fnExactIsBigraphic", unfollowed := true, recurses := true, apart := false }
def FnExactIsBigraphicSaid : Prop := fnExactIsBigraphicRow.holds Try.pinned (OpenSpec.ofChange fnExactIsBigraphicSpec)

/-- ITS FALSE NEIGHBOUR: 'it returns false'. Refute it at one input. -/
def fnExactIsBigraphicWrong : ChangeSpec := { name := "fnExactIsBigraphic", fn := fun _ => fun
  | [d1, d2] => { results := [.lit (.bool false)], args := [d1, d2] }
  | _ => none }
def FnExactIsBigraphicWrongFalsely : Prop := fnExactIsBigraphicRow.holds Try.pinned (OpenSpec.ofChange fnExactIsBigraphicWrong)

/-- 'laws.FnExactIsStrongScores': WHATEVER THE INPUT: true; the input reads as it did. -/
def fnExactIsStrongScoresSpec : ChangeSpec := { name := "fnExactIsStrongScores", fn := fun _ => fun
  | [d] => { results := [.lit (.bool true)], args := [d] }
  | _ => none }
def fnExactIsStrongScoresRow : OpenClaim := { program := "ytlmohafmpgpnaab", sum := "19b9b3ffdc1659b4b9810f142ca185c53cad48562b0e028be00dda3adeac2a0b", func := "loop.example/degreeswaps/laws.FnExactIsStrongScores", spec := "fnExactIsStrongScores", unfollowed := true, recurses := true, apart := false }
def FnExactIsStrongScoresSaid : Prop := fnExactIsStrongScoresRow.holds Try.pinned (OpenSpec.ofChange fnExactIsStrongScoresSpec)

/-- ITS FALSE NEIGHBOUR: 'it returns false'. Refute it at one input. -/
def fnExactIsStrongScoresWrong : ChangeSpec := { name := "fnExactIsStrongScores", fn := fun _ => fun
  | [d] => { results := [.lit (.bool false)], args := [d] }
  | _ => none }
def FnExactIsStrongScoresWrongFalsely : Prop := fnExactIsStrongScoresRow.holds Try.pinned (OpenSpec.ofChange fnExactIsStrongScoresWrong)

/-- 'laws.FnExactCountTrees': WHATEVER THE INPUT: true; the input reads as it did. -/
def fnExactCountTreesSpec : ChangeSpec := { name := "fnExactCountTrees", fn := fun _ => fun
  | [d] => { results := [.lit (.bool true)], args := [d] }
  | _ => none }
def fnExactCountTreesRow : OpenClaim := { program := "ytlmohafmpgpnaab", sum := "19b9b3ffdc1659b4b9810f142ca185c53cad48562b0e028be00dda3adeac2a0b", func := "loop.example/degreeswaps/laws.FnExactCountTrees", spec := "fnExactCountTrees", unfollowed := true, recurses := true, apart := false }
def FnExactCountTreesSaid : Prop := fnExactCountTreesRow.holds Try.pinned (OpenSpec.ofChange fnExactCountTreesSpec)

/-- ITS FALSE NEIGHBOUR: 'it returns false'. Refute it at one input. -/
def fnExactCountTreesWrong : ChangeSpec := { name := "fnExactCountTrees", fn := fun _ => fun
  | [d] => { results := [.lit (.bool false)], args := [d] }
  | _ => none }
def FnExactCountTreesWrongFalsely : Prop := fnExactCountTreesRow.holds Try.pinned (OpenSpec.ofChange fnExactCountTreesWrong)

/-- 'laws.FnExactIsConnectable': WHATEVER THE INPUT: true; the input reads as it did. -/
def fnExactIsConnectableSpec : ChangeSpec := { name := "fnExactIsConnectable", fn := fun _ => fun
  | [d] => { results := [.lit (.bool true)], args := [d] }
  | _ => none }
def fnExactIsConnectableRow : OpenClaim := { program := "ytlmohafmpgpnaab", sum := "19b9b3ffdc1659b4b9810f142ca185c53cad48562b0e028be00dda3adeac2a0b", func := "loop.example/degreeswaps/laws.FnExactIsConnectable", spec := "fnExactIsConnectable", unfollowed := true, recurses := true, apart := false }
def FnExactIsConnectableSaid : Prop := fnExactIsConnectableRow.holds Try.pinned (OpenSpec.ofChange fnExactIsConnectableSpec)

/-- ITS FALSE NEIGHBOUR: 'it returns false'. Refute it at one input. -/
def fnExactIsConnectableWrong : ChangeSpec := { name := "fnExactIsConnectable", fn := fun _ => fun
  | [d] => { results := [.lit (.bool false)], args := [d] }
  | _ => none }
def FnExactIsConnectableWrongFalsely : Prop := fnExactIsConnectableRow.holds Try.pinned (OpenSpec.ofChange fnExactIsConnectableWrong)

/-- 'laws.FnExactIsSplit': WHATEVER THE INPUT: true; the input reads as it did. -/
def fnExactIsSplitSpec : ChangeSpec := { name := "fnExactIsSplit", fn := fun _ => fun
  | [d] => { results := [.lit (.bool true)], args := [d] }
  | _ => none }
def fnExactIsSplitRow : OpenClaim := { program := "ytlmohafmpgpnaab", sum := "19b9b3ffdc1659b4b9810f142ca185c53cad48562b0e028be00dda3adeac2a0b", func := "loop.example/degreeswaps/laws.FnExactIsSplit", spec := "fnExactIsSplit", unfollowed := true, recurses := true, apart := false }
def FnExactIsSplitSaid : Prop := fnExactIsSplitRow.holds Try.pinned (OpenSpec.ofChange fnExactIsSplitSpec)

/-- ITS FALSE NEIGHBOUR: 'it returns false'. Refute it at one input. -/
def fnExactIsSplitWrong : ChangeSpec := { name := "fnExactIsSplit", fn := fun _ => fun
  | [d] => { results := [.lit (.bool false)], args := [d] }
  | _ => none }
def FnExactIsSplitWrongFalsely : Prop := fnExactIsSplitRow.holds Try.pinned (OpenSpec.ofChange fnExactIsSplitWrong)

/-- 'laws.FnExactSplittanceOf': WHATEVER THE INPUT: true; the input reads as it did. -/
def fnExactSplittanceOfSpec : ChangeSpec := { name := "fnExactSplittanceOf", fn := fun _ => fun
  | [d] => { results := [.lit (.bool true)], args := [d] }
  | _ => none }
def fnExactSplittanceOfRow : OpenClaim := { program := "ytlmohafmpgpnaab", sum := "19b9b3ffdc1659b4b9810f142ca185c53cad48562b0e028be00dda3adeac2a0b", func := "loop.example/degreeswaps/laws.FnExactSplittanceOf", spec := "fnExactSplittanceOf", unfollowed := true, recurses := true, apart := false }
def FnExactSplittanceOfSaid : Prop := fnExactSplittanceOfRow.holds Try.pinned (OpenSpec.ofChange fnExactSplittanceOfSpec)

/-- ITS FALSE NEIGHBOUR: 'it returns false'. Refute it at one input. -/
def fnExactSplittanceOfWrong : ChangeSpec := { name := "fnExactSplittanceOf", fn := fun _ => fun
  | [d] => { results := [.lit (.bool false)], args := [d] }
  | _ => none }
def FnExactSplittanceOfWrongFalsely : Prop := fnExactSplittanceOfRow.holds Try.pinned (OpenSpec.ofChange fnExactSplittanceOfWrong)

/- THE SECOND FORM. 'bulk': how many values and letters a reading holds, each counted each time it is reached (what is shared counts as often as it is met; a slice's spare places count too). A statement '..UptoSaid' is the law's where the arguments, and the package variables that the reading takes, are together of bulk at most 1048576: NARROWER than '..Said'. Prove '..Said' where nothing that the law and all that it calls make is longer than what came in: it says more and counts as full. Else prove '..UptoSaid'. A law counts once. -/
mutual
def uptoBulk {H : Type} : DataW H → Nat
  | .lit (.string bytes) => bytes.length + 1
  | .lit _ => 1
  | .nil => 1
  | .ptr d => uptoBulk d + 1
  | .slice elems spare => uptoBulkAll elems + uptoBulkAll spare + 1
  | .agg parts => uptoBulkAll parts + 1
  | .iface _ d => uptoBulk d + 1
  | .map entries => uptoBulkEntries entries + 1
  | .held _ => 1
def uptoBulkAll {H : Type} : List (DataW H) → Nat
  | [] => 0
  | d :: r => uptoBulk d + uptoBulkAll r
def uptoBulkEntries {H : Type} : List (Lit × DataW H) → Nat
  | [] => 0
  | x :: r => uptoBulkEntry x + uptoBulkEntries r
def uptoBulkEntry {H : Type} : Lit × DataW H → Nat
  | (.string bytes, d) => bytes.length + uptoBulk d + 1
  | (_, d) => uptoBulk d + 1
 end
def uptoSmall : (H : Type) → List (DataW H) → Bool := fun _ ds => decide (uptoBulkAll ds ≤ 1048576)
def OpenSpec.upto (s : _root_.Go.ChangeSpec) : _root_.Go.OpenSpec := { _root_.Go.OpenSpec.ofChange s with cond := some uptoSmall }

/-- 'laws.FnExactIsThreshold', WHERE WHAT IT READS IS OF BULK AT MOST 1048576: true; the input reads as it did. -/
def fnExactIsThresholdUptoRow : OpenClaim := { program := "ytlmohafmpgpnaab", sum := "19b9b3ffdc1659b4b9810f142ca185c53cad48562b0e028be00dda3adeac2a0b", func := "loop.example/degreeswaps/laws.FnExactIsThreshold", spec := "fnExactIsThreshold", unfollowed := true, recurses := true, apart := false, narrowed := true }
def FnExactIsThresholdUptoSaid : Prop := fnExactIsThresholdUptoRow.holds Try.pinned (OpenSpec.upto fnExactIsThresholdSpec)

/-- 'laws.FnExactIsBigraphic', WHERE WHAT IT READS IS OF BULK AT MOST 1048576: true; the input reads as it did. -/
def fnExactIsBigraphicUptoRow : OpenClaim := { program := "ytlmohafmpgpnaab", sum := "19b9b3ffdc1659b4b9810f142ca185c53cad48562b0e028be00dda3adeac2a0b", func := "loop.example/degreeswaps/laws.FnExactIsBigraphic", spec := "fnExactIsBigraphic", unfollowed := true, recurses := true, apart := false, narrowed := true }
def FnExactIsBigraphicUptoSaid : Prop := fnExactIsBigraphicUptoRow.holds Try.pinned (OpenSpec.upto fnExactIsBigraphicSpec)

/-- 'laws.FnExactIsStrongScores', WHERE WHAT IT READS IS OF BULK AT MOST 1048576: true; the input reads as it did. -/
def fnExactIsStrongScoresUptoRow : OpenClaim := { program := "ytlmohafmpgpnaab", sum := "19b9b3ffdc1659b4b9810f142ca185c53cad48562b0e028be00dda3adeac2a0b", func := "loop.example/degreeswaps/laws.FnExactIsStrongScores", spec := "fnExactIsStrongScores", unfollowed := true, recurses := true, apart := false, narrowed := true }
def FnExactIsStrongScoresUptoSaid : Prop := fnExactIsStrongScoresUptoRow.holds Try.pinned (OpenSpec.upto fnExactIsStrongScoresSpec)

/-- 'laws.FnExactCountTrees', WHERE WHAT IT READS IS OF BULK AT MOST 1048576: true; the input reads as it did. -/
def fnExactCountTreesUptoRow : OpenClaim := { program := "ytlmohafmpgpnaab", sum := "19b9b3ffdc1659b4b9810f142ca185c53cad48562b0e028be00dda3adeac2a0b", func := "loop.example/degreeswaps/laws.FnExactCountTrees", spec := "fnExactCountTrees", unfollowed := true, recurses := true, apart := false, narrowed := true }
def FnExactCountTreesUptoSaid : Prop := fnExactCountTreesUptoRow.holds Try.pinned (OpenSpec.upto fnExactCountTreesSpec)

/-- 'laws.FnExactIsConnectable', WHERE WHAT IT READS IS OF BULK AT MOST 1048576: true; the input reads as it did. -/
def fnExactIsConnectableUptoRow : OpenClaim := { program := "ytlmohafmpgpnaab", sum := "19b9b3ffdc1659b4b9810f142ca185c53cad48562b0e028be00dda3adeac2a0b", func := "loop.example/degreeswaps/laws.FnExactIsConnectable", spec := "fnExactIsConnectable", unfollowed := true, recurses := true, apart := false, narrowed := true }
def FnExactIsConnectableUptoSaid : Prop := fnExactIsConnectableUptoRow.holds Try.pinned (OpenSpec.upto fnExactIsConnectableSpec)

/-- 'laws.FnExactIsSplit', WHERE WHAT IT READS IS OF BULK AT MOST 1048576: true; the input reads as it did. -/
def fnExactIsSplitUptoRow : OpenClaim := { program := "ytlmohafmpgpnaab", sum := "19b9b3ffdc1659b4b9810f142ca185c53cad48562b0e028be00dda3adeac2a0b", func := "loop.example/degreeswaps/laws.FnExactIsSplit", spec := "fnExactIsSplit", unfollowed := true, recurses := true, apart := false, narrowed := true }
def FnExactIsSplitUptoSaid : Prop := fnExactIsSplitUptoRow.holds Try.pinned (OpenSpec.upto fnExactIsSplitSpec)

/-- 'laws.FnExactSplittanceOf', WHERE WHAT IT READS IS OF BULK AT MOST 1048576: true; the input reads as it did. -/
def fnExactSplittanceOfUptoRow : OpenClaim := { program := "ytlmohafmpgpnaab", sum := "19b9b3ffdc1659b4b9810f142ca185c53cad48562b0e028be00dda3adeac2a0b", func := "loop.example/degreeswaps/laws.FnExactSplittanceOf", spec := "fnExactSplittanceOf", unfollowed := true, recurses := true, apart := false, narrowed := true }
def FnExactSplittanceOfUptoSaid : Prop := fnExactSplittanceOfUptoRow.holds Try.pinned (OpenSpec.upto fnExactSplittanceOfSpec)

end Rows
end Go.Proofs.Ytlmohafmpgpnaab
