/-
  No cell of these rows narrows 'for every input' (looked for: loops, veiled, ifaces, maps, wideKeys, modest, calm, conditions, laid).
  DERIVED. THE GIVEN ROWS OF THIS SEAT. 7 by the template 'for every input the law returns true; each argument reads behind the call as it read before'; 0 by the template 'total and deterministic' (their statements: YtlmohafmpgpnaaaTotals.lean).
  GIVEN WITH THE SEED: the statements are not yours to turn. If you find one false, say at which input.
  Laid BY PROGRAM, IN A SANDBOX (cutbox-rows.mjs): the forced cells as the released guide's own fill.sh prints them over the translation cfa77ed4277031f3… (all of the seat's roots in one cut). By AI agents, Wed Nov 11 2026. No macro, syntax, notation, axiom, sorry.
-/
import Derived.Test.YtlmohafmpgpnaaaChecked
import GoSem.Claim
import GoSem.ClaimJoined
import GoSem.ClaimMapViews
import Derived.JoinedTies
import Derived.KernelRfl
namespace Go.Proofs.Ytlmohafmpgpnaaa
/- THE CELL 'sum', in the pinned program and in every row, IS THE sha256 OF THE DUMP (.gsa) THAT YtlmohafmpgpnaaaProg.lean LOADS. Nothing in Lean hashes anything: it is a label: what it is worth is what the hold of that sum in a sandbox is worth. -/
noncomputable def Try.pinned : Pinned := { name := "ytlmohafmpgpnaaa", sum := "cfa77ed4277031f39d117e1ffcc1644436270e5adc18f1c413cff3a9494bcf57", checked := Try.checked }
namespace Rows
def none {H : Type} : Left H := { results := [], args := [] }

/-- 'laws.FnExactMajorizes': WHATEVER THE INPUT: true; the input reads as it did. -/
def fnExactMajorizesSpec : ChangeSpec := { name := "fnExactMajorizes", fn := fun _ => fun
  | [d1, d2] => { results := [.lit (.bool true)], args := [d1, d2] }
  | _ => none }
def fnExactMajorizesRow : OpenClaim := { program := "ytlmohafmpgpnaaa", sum := "cfa77ed4277031f39d117e1ffcc1644436270e5adc18f1c413cff3a9494bcf57", func := "loop.example/degreeswaps/laws.FnExactMajorizes", spec := "fnExactMajorizes", unfollowed := true, recurses := true, apart := false }
def FnExactMajorizesSaid : Prop := fnExactMajorizesRow.holds Try.pinned (OpenSpec.ofChange fnExactMajorizesSpec)

/-- ITS FALSE NEIGHBOUR: 'it returns false'. Refute it at one input. -/
def fnExactMajorizesWrong : ChangeSpec := { name := "fnExactMajorizes", fn := fun _ => fun
  | [d1, d2] => { results := [.lit (.bool false)], args := [d1, d2] }
  | _ => none }
def FnExactMajorizesWrongFalsely : Prop := fnExactMajorizesRow.holds Try.pinned (OpenSpec.ofChange fnExactMajorizesWrong)

/-- 'laws.FnExactIsTreeDegrees': WHATEVER THE INPUT: true; the input reads as it did. -/
def fnExactIsTreeDegreesSpec : ChangeSpec := { name := "fnExactIsTreeDegrees", fn := fun _ => fun
  | [d] => { results := [.lit (.bool true)], args := [d] }
  | _ => none }
def fnExactIsTreeDegreesRow : OpenClaim := { program := "ytlmohafmpgpnaaa", sum := "cfa77ed4277031f39d117e1ffcc1644436270e5adc18f1c413cff3a9494bcf57", func := "loop.example/degreeswaps/laws.FnExactIsTreeDegrees", spec := "fnExactIsTreeDegrees", unfollowed := true, recurses := true, apart := false }
def FnExactIsTreeDegreesSaid : Prop := fnExactIsTreeDegreesRow.holds Try.pinned (OpenSpec.ofChange fnExactIsTreeDegreesSpec)

/-- ITS FALSE NEIGHBOUR: 'it returns false'. Refute it at one input. -/
def fnExactIsTreeDegreesWrong : ChangeSpec := { name := "fnExactIsTreeDegrees", fn := fun _ => fun
  | [d] => { results := [.lit (.bool false)], args := [d] }
  | _ => none }
def FnExactIsTreeDegreesWrongFalsely : Prop := fnExactIsTreeDegreesRow.holds Try.pinned (OpenSpec.ofChange fnExactIsTreeDegreesWrong)

/-- 'laws.FnExactIsScores': WHATEVER THE INPUT: true; the input reads as it did. -/
def fnExactIsScoresSpec : ChangeSpec := { name := "fnExactIsScores", fn := fun _ => fun
  | [d] => { results := [.lit (.bool true)], args := [d] }
  | _ => none }
def fnExactIsScoresRow : OpenClaim := { program := "ytlmohafmpgpnaaa", sum := "cfa77ed4277031f39d117e1ffcc1644436270e5adc18f1c413cff3a9494bcf57", func := "loop.example/degreeswaps/laws.FnExactIsScores", spec := "fnExactIsScores", unfollowed := true, recurses := true, apart := false }
def FnExactIsScoresSaid : Prop := fnExactIsScoresRow.holds Try.pinned (OpenSpec.ofChange fnExactIsScoresSpec)

/-- ITS FALSE NEIGHBOUR: 'it returns false'. Refute it at one input. -/
def fnExactIsScoresWrong : ChangeSpec := { name := "fnExactIsScores", fn := fun _ => fun
  | [d] => { results := [.lit (.bool false)], args := [d] }
  | _ => none }
def FnExactIsScoresWrongFalsely : Prop := fnExactIsScoresRow.holds Try.pinned (OpenSpec.ofChange fnExactIsScoresWrong)

/-- 'laws.FnExactCorrectedOf': WHATEVER THE INPUT: true; the input reads as it did. -/
def fnExactCorrectedOfSpec : ChangeSpec := { name := "fnExactCorrectedOf", fn := fun _ => fun
  | [d] => { results := [.lit (.bool true)], args := [d] }
  | _ => none }
def fnExactCorrectedOfRow : OpenClaim := { program := "ytlmohafmpgpnaaa", sum := "cfa77ed4277031f39d117e1ffcc1644436270e5adc18f1c413cff3a9494bcf57", func := "loop.example/degreeswaps/laws.FnExactCorrectedOf", spec := "fnExactCorrectedOf", unfollowed := true, recurses := true, apart := false }
def FnExactCorrectedOfSaid : Prop := fnExactCorrectedOfRow.holds Try.pinned (OpenSpec.ofChange fnExactCorrectedOfSpec)

/-- ITS FALSE NEIGHBOUR: 'it returns false'. Refute it at one input. -/
def fnExactCorrectedOfWrong : ChangeSpec := { name := "fnExactCorrectedOf", fn := fun _ => fun
  | [d] => { results := [.lit (.bool false)], args := [d] }
  | _ => none }
def FnExactCorrectedOfWrongFalsely : Prop := fnExactCorrectedOfRow.holds Try.pinned (OpenSpec.ofChange fnExactCorrectedOfWrong)

/-- 'laws.FnExactSlacksOf': WHATEVER THE INPUT: true; the input reads as it did. -/
def fnExactSlacksOfSpec : ChangeSpec := { name := "fnExactSlacksOf", fn := fun _ => fun
  | [d] => { results := [.lit (.bool true)], args := [d] }
  | _ => none }
def fnExactSlacksOfRow : OpenClaim := { program := "ytlmohafmpgpnaaa", sum := "cfa77ed4277031f39d117e1ffcc1644436270e5adc18f1c413cff3a9494bcf57", func := "loop.example/degreeswaps/laws.FnExactSlacksOf", spec := "fnExactSlacksOf", unfollowed := true, recurses := true, apart := false }
def FnExactSlacksOfSaid : Prop := fnExactSlacksOfRow.holds Try.pinned (OpenSpec.ofChange fnExactSlacksOfSpec)

/-- ITS FALSE NEIGHBOUR: 'it returns false'. Refute it at one input. -/
def fnExactSlacksOfWrong : ChangeSpec := { name := "fnExactSlacksOf", fn := fun _ => fun
  | [d] => { results := [.lit (.bool false)], args := [d] }
  | _ => none }
def FnExactSlacksOfWrongFalsely : Prop := fnExactSlacksOfRow.holds Try.pinned (OpenSpec.ofChange fnExactSlacksOfWrong)

/-- 'laws.FnExactGaleSlacks': WHATEVER THE INPUT: true; the input reads as it did. -/
def fnExactGaleSlacksSpec : ChangeSpec := { name := "fnExactGaleSlacks", fn := fun _ => fun
  | [d1, d2] => { results := [.lit (.bool true)], args := [d1, d2] }
  | _ => none }
def fnExactGaleSlacksRow : OpenClaim := { program := "ytlmohafmpgpnaaa", sum := "cfa77ed4277031f39d117e1ffcc1644436270e5adc18f1c413cff3a9494bcf57", func := "loop.example/degreeswaps/laws.FnExactGaleSlacks", spec := "fnExactGaleSlacks", unfollowed := true, recurses := true, apart := false }
def FnExactGaleSlacksSaid : Prop := fnExactGaleSlacksRow.holds Try.pinned (OpenSpec.ofChange fnExactGaleSlacksSpec)

/-- ITS FALSE NEIGHBOUR: 'it returns false'. Refute it at one input. -/
def fnExactGaleSlacksWrong : ChangeSpec := { name := "fnExactGaleSlacks", fn := fun _ => fun
  | [d1, d2] => { results := [.lit (.bool false)], args := [d1, d2] }
  | _ => none }
def FnExactGaleSlacksWrongFalsely : Prop := fnExactGaleSlacksRow.holds Try.pinned (OpenSpec.ofChange fnExactGaleSlacksWrong)

/-- 'laws.FnExactIsGraphic': WHATEVER THE INPUT: true; the input reads as it did. -/
def fnExactIsGraphicSpec : ChangeSpec := { name := "fnExactIsGraphic", fn := fun _ => fun
  | [d] => { results := [.lit (.bool true)], args := [d] }
  | _ => none }
def fnExactIsGraphicRow : OpenClaim := { program := "ytlmohafmpgpnaaa", sum := "cfa77ed4277031f39d117e1ffcc1644436270e5adc18f1c413cff3a9494bcf57", func := "loop.example/degreeswaps/laws.FnExactIsGraphic", spec := "fnExactIsGraphic", unfollowed := true, recurses := true, apart := false }
def FnExactIsGraphicSaid : Prop := fnExactIsGraphicRow.holds Try.pinned (OpenSpec.ofChange fnExactIsGraphicSpec)

/-- ITS FALSE NEIGHBOUR: 'it returns false'. Refute it at one input. -/
def fnExactIsGraphicWrong : ChangeSpec := { name := "fnExactIsGraphic", fn := fun _ => fun
  | [d] => { results := [.lit (.bool false)], args := [d] }
  | _ => none }
def FnExactIsGraphicWrongFalsely : Prop := fnExactIsGraphicRow.holds Try.pinned (OpenSpec.ofChange fnExactIsGraphicWrong)

/- THE SECOND FORM. 'bulk': how many values and letters a reading holds, each counted each time it is reached (what is shared counts as often as it is met; a slice's spare places count too). A statement '..UptoSaid' is the law's where the arguments, and the package variables that the reading takes, are together of bulk at most 1048576: NARROWER than '..Said'. Prove '..Said' where nothing that the law and all that it calls make is longer than what came in: it says more and counts as full. Else prove '..UptoSaid'. A law counts once. -/
mutual
def uptoBulk {H : Type} : DataW H → Nat
  | .lit (.string bytes) => bytes.length + 1
  | .lit _ => 1
  | .nil => 1
  | .ptr d => uptoBulk d + 1
  | .slice elems spare => uptoBulkAll elems + uptoBulkAll spare + 1
  | .agg parts => uptoBulkAll parts + 1
  | .iface _ d => uptoBulk d + 1
  | .map entries => uptoBulkEntries entries + 1
  | .held _ => 1
def uptoBulkAll {H : Type} : List (DataW H) → Nat
  | [] => 0
  | d :: r => uptoBulk d + uptoBulkAll r
def uptoBulkEntries {H : Type} : List (Lit × DataW H) → Nat
  | [] => 0
  | x :: r => uptoBulkEntry x + uptoBulkEntries r
def uptoBulkEntry {H : Type} : Lit × DataW H → Nat
  | (.string bytes, d) => bytes.length + uptoBulk d + 1
  | (_, d) => uptoBulk d + 1
 end
def uptoSmall : (H : Type) → List (DataW H) → Bool := fun _ ds => decide (uptoBulkAll ds ≤ 1048576)
def OpenSpec.upto (s : _root_.Go.ChangeSpec) : _root_.Go.OpenSpec := { _root_.Go.OpenSpec.ofChange s with cond := some uptoSmall }

/-- 'laws.FnExactMajorizes', WHERE WHAT IT READS IS OF BULK AT MOST 1048576: true; the input reads as it did. -/
def fnExactMajorizesUptoRow : OpenClaim := { program := "ytlmohafmpgpnaaa", sum := "cfa77ed4277031f39d117e1ffcc1644436270e5adc18f1c413cff3a9494bcf57", func := "loop.example/degreeswaps/laws.FnExactMajorizes", spec := "fnExactMajorizes", unfollowed := true, recurses := true, apart := false, narrowed := true }
def FnExactMajorizesUptoSaid : Prop := fnExactMajorizesUptoRow.holds Try.pinned (OpenSpec.upto fnExactMajorizesSpec)

/-- 'laws.FnExactIsTreeDegrees', WHERE WHAT IT READS IS OF BULK AT MOST 1048576: true; the input reads as it did. -/
def fnExactIsTreeDegreesUptoRow : OpenClaim := { program := "ytlmohafmpgpnaaa", sum := "cfa77ed4277031f39d117e1ffcc1644436270e5adc18f1c413cff3a9494bcf57", func := "loop.example/degreeswaps/laws.FnExactIsTreeDegrees", spec := "fnExactIsTreeDegrees", unfollowed := true, recurses := true, apart := false, narrowed := true }
def FnExactIsTreeDegreesUptoSaid : Prop := fnExactIsTreeDegreesUptoRow.holds Try.pinned (OpenSpec.upto fnExactIsTreeDegreesSpec)

/-- 'laws.FnExactIsScores', WHERE WHAT IT READS IS OF BULK AT MOST 1048576: true; the input reads as it did. -/
def fnExactIsScoresUptoRow : OpenClaim := { program := "ytlmohafmpgpnaaa", sum := "cfa77ed4277031f39d117e1ffcc1644436270e5adc18f1c413cff3a9494bcf57", func := "loop.example/degreeswaps/laws.FnExactIsScores", spec := "fnExactIsScores", unfollowed := true, recurses := true, apart := false, narrowed := true }
def FnExactIsScoresUptoSaid : Prop := fnExactIsScoresUptoRow.holds Try.pinned (OpenSpec.upto fnExactIsScoresSpec)

/-- 'laws.FnExactCorrectedOf', WHERE WHAT IT READS IS OF BULK AT MOST 1048576: true; the input reads as it did. -/
def fnExactCorrectedOfUptoRow : OpenClaim := { program := "ytlmohafmpgpnaaa", sum := "cfa77ed4277031f39d117e1ffcc1644436270e5adc18f1c413cff3a9494bcf57", func := "loop.example/degreeswaps/laws.FnExactCorrectedOf", spec := "fnExactCorrectedOf", unfollowed := true, recurses := true, apart := false, narrowed := true }
def FnExactCorrectedOfUptoSaid : Prop := fnExactCorrectedOfUptoRow.holds Try.pinned (OpenSpec.upto fnExactCorrectedOfSpec)

/-- 'laws.FnExactSlacksOf', WHERE WHAT IT READS IS OF BULK AT MOST 1048576: true; the input reads as it did. -/
def fnExactSlacksOfUptoRow : OpenClaim := { program := "ytlmohafmpgpnaaa", sum := "cfa77ed4277031f39d117e1ffcc1644436270e5adc18f1c413cff3a9494bcf57", func := "loop.example/degreeswaps/laws.FnExactSlacksOf", spec := "fnExactSlacksOf", unfollowed := true, recurses := true, apart := false, narrowed := true }
def FnExactSlacksOfUptoSaid : Prop := fnExactSlacksOfUptoRow.holds Try.pinned (OpenSpec.upto fnExactSlacksOfSpec)

/-- 'laws.FnExactGaleSlacks', WHERE WHAT IT READS IS OF BULK AT MOST 1048576: true; the input reads as it did. -/
def fnExactGaleSlacksUptoRow : OpenClaim := { program := "ytlmohafmpgpnaaa", sum := "cfa77ed4277031f39d117e1ffcc1644436270e5adc18f1c413cff3a9494bcf57", func := "loop.example/degreeswaps/laws.FnExactGaleSlacks", spec := "fnExactGaleSlacks", unfollowed := true, recurses := true, apart := false, narrowed := true }
def FnExactGaleSlacksUptoSaid : Prop := fnExactGaleSlacksUptoRow.holds Try.pinned (OpenSpec.upto fnExactGaleSlacksSpec)

/-- 'laws.FnExactIsGraphic', WHERE WHAT IT READS IS OF BULK AT MOST 1048576: true; the input reads as it did. -/
def fnExactIsGraphicUptoRow : OpenClaim := { program := "ytlmohafmpgpnaaa", sum := "cfa77ed4277031f39d117e1ffcc1644436270e5adc18f1c413cff3a9494bcf57", func := "loop.example/degreeswaps/laws.FnExactIsGraphic", spec := "fnExactIsGraphic", unfollowed := true, recurses := true, apart := false, narrowed := true }
def FnExactIsGraphicUptoSaid : Prop := fnExactIsGraphicUptoRow.holds Try.pinned (OpenSpec.upto fnExactIsGraphicSpec)

end Rows
end Go.Proofs.Ytlmohafmpgpnaaa
