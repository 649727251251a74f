/-
  No cell of these rows narrows 'for every input' (looked for: loops, veiled, ifaces, maps, wideKeys, modest, calm, conditions, laid).
  DERIVED. THE GIVEN ROWS OF THIS SEAT. 6 by the template 'for every input the law returns true; each argument reads behind the call as it read before'; 0 by the template 'total and deterministic' (their statements: YtholcpgoioaccaaTotals.lean).
  GIVEN WITH THE SEED: the statements are not yours to turn. If you find one false, say at which input.
  Laid BY PROGRAM, IN A SANDBOX (cutbox-rows.mjs): the forced cells as the released guide's own fill.sh prints them over the translation cca4cf8776b6d507… (all of the seat's roots in one cut). By AI agents, Wed Nov 11 2026. No macro, syntax, notation, axiom, sorry.
-/
import Derived.Test.YtholcpgoioaccaaChecked
import GoSem.Claim
import GoSem.ClaimJoined
import GoSem.ClaimMapViews
import Derived.JoinedTies
import Derived.KernelRfl
namespace Go.Proofs.Ytholcpgoioaccaa
/- THE CELL 'sum', in the pinned program and in every row, IS THE sha256 OF THE DUMP (.gsa) THAT YtholcpgoioaccaaProg.lean LOADS. Nothing in Lean hashes anything: it is a label: what it is worth is what the hold of that sum in a sandbox is worth. -/
noncomputable def Try.pinned : Pinned := { name := "ytholcpgoioaccaa", sum := "cca4cf8776b6d5079bfbe99fbf6b4d7ac0d5eef7d28b5d594a18039dc3b47c26", checked := Try.checked }
namespace Rows
def none {H : Type} : Left H := { results := [], args := [] }

/-- 'laws.FnValidMargins': WHATEVER THE INPUT: true; the input reads as it did. -/
def fnValidMarginsSpec : ChangeSpec := { name := "fnValidMargins", fn := fun _ => fun
  | [d] => { results := [.lit (.bool true)], args := [d] }
  | _ => none }
def fnValidMarginsRow : OpenClaim := { program := "ytholcpgoioaccaa", sum := "cca4cf8776b6d5079bfbe99fbf6b4d7ac0d5eef7d28b5d594a18039dc3b47c26", func := "loop.example/degreeswaps/laws.FnValidMargins", spec := "fnValidMargins", unfollowed := true, recurses := true, apart := false }
def FnValidMarginsSaid : Prop := fnValidMarginsRow.holds Try.pinned (OpenSpec.ofChange fnValidMarginsSpec)

/-- ITS FALSE NEIGHBOUR: 'it returns false'. Refute it at one input. -/
def fnValidMarginsWrong : ChangeSpec := { name := "fnValidMargins", fn := fun _ => fun
  | [d] => { results := [.lit (.bool false)], args := [d] }
  | _ => none }
def FnValidMarginsWrongFalsely : Prop := fnValidMarginsRow.holds Try.pinned (OpenSpec.ofChange fnValidMarginsWrong)

/-- 'laws.FnGaleSlacks': WHATEVER THE INPUT: true; the input reads as it did. -/
def fnGaleSlacksSpec : ChangeSpec := { name := "fnGaleSlacks", fn := fun _ => fun
  | [d] => { results := [.lit (.bool true)], args := [d] }
  | _ => none }
def fnGaleSlacksRow : OpenClaim := { program := "ytholcpgoioaccaa", sum := "cca4cf8776b6d5079bfbe99fbf6b4d7ac0d5eef7d28b5d594a18039dc3b47c26", func := "loop.example/degreeswaps/laws.FnGaleSlacks", spec := "fnGaleSlacks", unfollowed := true, recurses := true, apart := false }
def FnGaleSlacksSaid : Prop := fnGaleSlacksRow.holds Try.pinned (OpenSpec.ofChange fnGaleSlacksSpec)

/-- ITS FALSE NEIGHBOUR: 'it returns false'. Refute it at one input. -/
def fnGaleSlacksWrong : ChangeSpec := { name := "fnGaleSlacks", fn := fun _ => fun
  | [d] => { results := [.lit (.bool false)], args := [d] }
  | _ => none }
def FnGaleSlacksWrongFalsely : Prop := fnGaleSlacksRow.holds Try.pinned (OpenSpec.ofChange fnGaleSlacksWrong)

/-- 'laws.FnIsStrongScores': WHATEVER THE INPUT: true; the input reads as it did. -/
def fnIsStrongScoresSpec : ChangeSpec := { name := "fnIsStrongScores", fn := fun _ => fun
  | [d] => { results := [.lit (.bool true)], args := [d] }
  | _ => none }
def fnIsStrongScoresRow : OpenClaim := { program := "ytholcpgoioaccaa", sum := "cca4cf8776b6d5079bfbe99fbf6b4d7ac0d5eef7d28b5d594a18039dc3b47c26", func := "loop.example/degreeswaps/laws.FnIsStrongScores", spec := "fnIsStrongScores", unfollowed := true, recurses := true, apart := false }
def FnIsStrongScoresSaid : Prop := fnIsStrongScoresRow.holds Try.pinned (OpenSpec.ofChange fnIsStrongScoresSpec)

/-- ITS FALSE NEIGHBOUR: 'it returns false'. Refute it at one input. -/
def fnIsStrongScoresWrong : ChangeSpec := { name := "fnIsStrongScores", fn := fun _ => fun
  | [d] => { results := [.lit (.bool false)], args := [d] }
  | _ => none }
def FnIsStrongScoresWrongFalsely : Prop := fnIsStrongScoresRow.holds Try.pinned (OpenSpec.ofChange fnIsStrongScoresWrong)

/-- 'laws.FnFillMatrix': WHATEVER THE INPUT: true; the input reads as it did. -/
def fnFillMatrixSpec : ChangeSpec := { name := "fnFillMatrix", fn := fun _ => fun
  | [d] => { results := [.lit (.bool true)], args := [d] }
  | _ => none }
def fnFillMatrixRow : OpenClaim := { program := "ytholcpgoioaccaa", sum := "cca4cf8776b6d5079bfbe99fbf6b4d7ac0d5eef7d28b5d594a18039dc3b47c26", func := "loop.example/degreeswaps/laws.FnFillMatrix", spec := "fnFillMatrix", unfollowed := true, recurses := true, apart := false }
def FnFillMatrixSaid : Prop := fnFillMatrixRow.holds Try.pinned (OpenSpec.ofChange fnFillMatrixSpec)

/-- ITS FALSE NEIGHBOUR: 'it returns false'. Refute it at one input. -/
def fnFillMatrixWrong : ChangeSpec := { name := "fnFillMatrix", fn := fun _ => fun
  | [d] => { results := [.lit (.bool false)], args := [d] }
  | _ => none }
def FnFillMatrixWrongFalsely : Prop := fnFillMatrixRow.holds Try.pinned (OpenSpec.ofChange fnFillMatrixWrong)

/-- 'laws.FnMarginsOf': WHATEVER THE INPUT: true; the input reads as it did. -/
def fnMarginsOfSpec : ChangeSpec := { name := "fnMarginsOf", fn := fun _ => fun
  | [d] => { results := [.lit (.bool true)], args := [d] }
  | _ => none }
def fnMarginsOfRow : OpenClaim := { program := "ytholcpgoioaccaa", sum := "cca4cf8776b6d5079bfbe99fbf6b4d7ac0d5eef7d28b5d594a18039dc3b47c26", func := "loop.example/degreeswaps/laws.FnMarginsOf", spec := "fnMarginsOf", unfollowed := true, recurses := true, apart := false }
def FnMarginsOfSaid : Prop := fnMarginsOfRow.holds Try.pinned (OpenSpec.ofChange fnMarginsOfSpec)

/-- ITS FALSE NEIGHBOUR: 'it returns false'. Refute it at one input. -/
def fnMarginsOfWrong : ChangeSpec := { name := "fnMarginsOf", fn := fun _ => fun
  | [d] => { results := [.lit (.bool false)], args := [d] }
  | _ => none }
def FnMarginsOfWrongFalsely : Prop := fnMarginsOfRow.holds Try.pinned (OpenSpec.ofChange fnMarginsOfWrong)

/-- 'laws.FnScoresOf': WHATEVER THE INPUT: true; the input reads as it did. -/
def fnScoresOfSpec : ChangeSpec := { name := "fnScoresOf", fn := fun _ => fun
  | [d] => { results := [.lit (.bool true)], args := [d] }
  | _ => none }
def fnScoresOfRow : OpenClaim := { program := "ytholcpgoioaccaa", sum := "cca4cf8776b6d5079bfbe99fbf6b4d7ac0d5eef7d28b5d594a18039dc3b47c26", func := "loop.example/degreeswaps/laws.FnScoresOf", spec := "fnScoresOf", unfollowed := true, recurses := true, apart := false }
def FnScoresOfSaid : Prop := fnScoresOfRow.holds Try.pinned (OpenSpec.ofChange fnScoresOfSpec)

/-- ITS FALSE NEIGHBOUR: 'it returns false'. Refute it at one input. -/
def fnScoresOfWrong : ChangeSpec := { name := "fnScoresOf", fn := fun _ => fun
  | [d] => { results := [.lit (.bool false)], args := [d] }
  | _ => none }
def FnScoresOfWrongFalsely : Prop := fnScoresOfRow.holds Try.pinned (OpenSpec.ofChange fnScoresOfWrong)

/- THE SECOND FORM. 'bulk': how many values and letters a reading holds, each counted each time it is reached (what is shared counts as often as it is met; a slice's spare places count too). A statement '..UptoSaid' is the law's where the arguments, and the package variables that the reading takes, are together of bulk at most 1048576: NARROWER than '..Said'. Prove '..Said' where nothing that the law and all that it calls make is longer than what came in: it says more and counts as full. Else prove '..UptoSaid'. A law counts once. -/
mutual
def uptoBulk {H : Type} : DataW H → Nat
  | .lit (.string bytes) => bytes.length + 1
  | .lit _ => 1
  | .nil => 1
  | .ptr d => uptoBulk d + 1
  | .slice elems spare => uptoBulkAll elems + uptoBulkAll spare + 1
  | .agg parts => uptoBulkAll parts + 1
  | .iface _ d => uptoBulk d + 1
  | .map entries => uptoBulkEntries entries + 1
  | .held _ => 1
def uptoBulkAll {H : Type} : List (DataW H) → Nat
  | [] => 0
  | d :: r => uptoBulk d + uptoBulkAll r
def uptoBulkEntries {H : Type} : List (Lit × DataW H) → Nat
  | [] => 0
  | x :: r => uptoBulkEntry x + uptoBulkEntries r
def uptoBulkEntry {H : Type} : Lit × DataW H → Nat
  | (.string bytes, d) => bytes.length + uptoBulk d + 1
  | (_, d) => uptoBulk d + 1
 end
def uptoSmall : (H : Type) → List (DataW H) → Bool := fun _ ds => decide (uptoBulkAll ds ≤ 1048576)
def OpenSpec.upto (s : _root_.Go.ChangeSpec) : _root_.Go.OpenSpec := { _root_.Go.OpenSpec.ofChange s with cond := some uptoSmall }

/-- 'laws.FnValidMargins', WHERE WHAT IT READS IS OF BULK AT MOST 1048576: true; the input reads as it did. -/
def fnValidMarginsUptoRow : OpenClaim := { program := "ytholcpgoioaccaa", sum := "cca4cf8776b6d5079bfbe99fbf6b4d7ac0d5eef7d28b5d594a18039dc3b47c26", func := "loop.example/degreeswaps/laws.FnValidMargins", spec := "fnValidMargins", unfollowed := true, recurses := true, apart := false, narrowed := true }
def FnValidMarginsUptoSaid : Prop := fnValidMarginsUptoRow.holds Try.pinned (OpenSpec.upto fnValidMarginsSpec)

/-- 'laws.FnGaleSlacks', WHERE WHAT IT READS IS OF BULK AT MOST 1048576: true; the input reads as it did. -/
def fnGaleSlacksUptoRow : OpenClaim := { program := "ytholcpgoioaccaa", sum := "cca4cf8776b6d5079bfbe99fbf6b4d7ac0d5eef7d28b5d594a18039dc3b47c26", func := "loop.example/degreeswaps/laws.FnGaleSlacks", spec := "fnGaleSlacks", unfollowed := true, recurses := true, apart := false, narrowed := true }
def FnGaleSlacksUptoSaid : Prop := fnGaleSlacksUptoRow.holds Try.pinned (OpenSpec.upto fnGaleSlacksSpec)

/-- 'laws.FnIsStrongScores', WHERE WHAT IT READS IS OF BULK AT MOST 1048576: true; the input reads as it did. -/
def fnIsStrongScoresUptoRow : OpenClaim := { program := "ytholcpgoioaccaa", sum := "cca4cf8776b6d5079bfbe99fbf6b4d7ac0d5eef7d28b5d594a18039dc3b47c26", func := "loop.example/degreeswaps/laws.FnIsStrongScores", spec := "fnIsStrongScores", unfollowed := true, recurses := true, apart := false, narrowed := true }
def FnIsStrongScoresUptoSaid : Prop := fnIsStrongScoresUptoRow.holds Try.pinned (OpenSpec.upto fnIsStrongScoresSpec)

/-- 'laws.FnFillMatrix', WHERE WHAT IT READS IS OF BULK AT MOST 1048576: true; the input reads as it did. -/
def fnFillMatrixUptoRow : OpenClaim := { program := "ytholcpgoioaccaa", sum := "cca4cf8776b6d5079bfbe99fbf6b4d7ac0d5eef7d28b5d594a18039dc3b47c26", func := "loop.example/degreeswaps/laws.FnFillMatrix", spec := "fnFillMatrix", unfollowed := true, recurses := true, apart := false, narrowed := true }
def FnFillMatrixUptoSaid : Prop := fnFillMatrixUptoRow.holds Try.pinned (OpenSpec.upto fnFillMatrixSpec)

/-- 'laws.FnMarginsOf', WHERE WHAT IT READS IS OF BULK AT MOST 1048576: true; the input reads as it did. -/
def fnMarginsOfUptoRow : OpenClaim := { program := "ytholcpgoioaccaa", sum := "cca4cf8776b6d5079bfbe99fbf6b4d7ac0d5eef7d28b5d594a18039dc3b47c26", func := "loop.example/degreeswaps/laws.FnMarginsOf", spec := "fnMarginsOf", unfollowed := true, recurses := true, apart := false, narrowed := true }
def FnMarginsOfUptoSaid : Prop := fnMarginsOfUptoRow.holds Try.pinned (OpenSpec.upto fnMarginsOfSpec)

/-- 'laws.FnScoresOf', WHERE WHAT IT READS IS OF BULK AT MOST 1048576: true; the input reads as it did. -/
def fnScoresOfUptoRow : OpenClaim := { program := "ytholcpgoioaccaa", sum := "cca4cf8776b6d5079bfbe99fbf6b4d7ac0d5eef7d28b5d594a18039dc3b47c26", func := "loop.example/degreeswaps/laws.FnScoresOf", spec := "fnScoresOf", unfollowed := true, recurses := true, apart := false, narrowed := true }
def FnScoresOfUptoSaid : Prop := fnScoresOfUptoRow.holds Try.pinned (OpenSpec.upto fnScoresOfSpec)

end Rows
end Go.Proofs.Ytholcpgoioaccaa
