/-
  No cell of these rows narrows 'for every input' (looked for: loops, veiled, ifaces, maps, wideKeys, modest, calm, conditions, laid).
  DERIVED. THE GIVEN ROWS OF THIS SEAT. 4 by the template 'for every input the law returns true; each argument reads behind the call as it read before'; 0 by the template 'total and deterministic' (their statements: YtbdekdelieighabTotals.lean).
  GIVEN WITH THE SEED: the statements are not yours to turn. If you find one false, say at which input.
  Laid BY PROGRAM, IN A SANDBOX (cutbox-rows.mjs): the forced cells as the released guide's own fill.sh prints them over the translation ec67c09580364ab9… (all of the seat's roots in one cut). By AI agents, Wed Nov 11 2026. No macro, syntax, notation, axiom, sorry.
-/
import Derived.Test.YtbdekdelieighabChecked
import GoSem.Claim
import GoSem.ClaimJoined
import GoSem.ClaimMapViews
import Derived.JoinedTies
import Derived.KernelRfl
namespace Go.Proofs.Ytbdekdelieighab
/- THE CELL 'sum', in the pinned program and in every row, IS THE sha256 OF THE DUMP (.gsa) THAT YtbdekdelieighabProg.lean LOADS. Nothing in Lean hashes anything: it is a label: what it is worth is what the hold of that sum in a sandbox is worth. -/
noncomputable def Try.pinned : Pinned := { name := "ytbdekdelieighab", sum := "ec67c09580364ab9ad992b915b02a540105ca8c070682fffe772d5d8b504541e", checked := Try.checked }
namespace Rows
def none {H : Type} : Left H := { results := [], args := [] }

/-- 'laws.FnExactComposeDegrees': WHATEVER THE INPUT: true; the input reads as it did. -/
def fnExactComposeDegreesSpec : ChangeSpec := { name := "fnExactComposeDegrees", fn := fun _ => fun
  | [d1, d2, d3] => { results := [.lit (.bool true)], args := [d1, d2, d3] }
  | _ => none }
def fnExactComposeDegreesRow : OpenClaim := { program := "ytbdekdelieighab", sum := "ec67c09580364ab9ad992b915b02a540105ca8c070682fffe772d5d8b504541e", func := "loop.example/degreeswaps/laws.FnExactComposeDegrees", spec := "fnExactComposeDegrees", unfollowed := true, recurses := true, apart := false }
def FnExactComposeDegreesSaid : Prop := fnExactComposeDegreesRow.holds Try.pinned (OpenSpec.ofChange fnExactComposeDegreesSpec)

/-- ITS FALSE NEIGHBOUR: 'it returns false'. Refute it at one input. -/
def fnExactComposeDegreesWrong : ChangeSpec := { name := "fnExactComposeDegrees", fn := fun _ => fun
  | [d1, d2, d3] => { results := [.lit (.bool false)], args := [d1, d2, d3] }
  | _ => none }
def FnExactComposeDegreesWrongFalsely : Prop := fnExactComposeDegreesRow.holds Try.pinned (OpenSpec.ofChange fnExactComposeDegreesWrong)

/-- 'laws.FnExactFillMatrix': WHATEVER THE INPUT: true; the input reads as it did. -/
def fnExactFillMatrixSpec : ChangeSpec := { name := "fnExactFillMatrix", fn := fun _ => fun
  | [d1, d2] => { results := [.lit (.bool true)], args := [d1, d2] }
  | _ => none }
def fnExactFillMatrixRow : OpenClaim := { program := "ytbdekdelieighab", sum := "ec67c09580364ab9ad992b915b02a540105ca8c070682fffe772d5d8b504541e", func := "loop.example/degreeswaps/laws.FnExactFillMatrix", spec := "fnExactFillMatrix", unfollowed := true, recurses := true, apart := false }
def FnExactFillMatrixSaid : Prop := fnExactFillMatrixRow.holds Try.pinned (OpenSpec.ofChange fnExactFillMatrixSpec)

/-- ITS FALSE NEIGHBOUR: 'it returns false'. Refute it at one input. -/
def fnExactFillMatrixWrong : ChangeSpec := { name := "fnExactFillMatrix", fn := fun _ => fun
  | [d1, d2] => { results := [.lit (.bool false)], args := [d1, d2] }
  | _ => none }
def FnExactFillMatrixWrongFalsely : Prop := fnExactFillMatrixRow.holds Try.pinned (OpenSpec.ofChange fnExactFillMatrixWrong)

/-- 'laws.FnExactIsStrong': WHATEVER THE INPUT: true; the input reads as it did. -/
def fnExactIsStrongSpec : ChangeSpec := { name := "fnExactIsStrong", fn := fun _ => fun
  | [d] => { results := [.lit (.bool true)], args := [d] }
  | _ => none }
def fnExactIsStrongRow : OpenClaim := { program := "ytbdekdelieighab", sum := "ec67c09580364ab9ad992b915b02a540105ca8c070682fffe772d5d8b504541e", func := "loop.example/degreeswaps/laws.FnExactIsStrong", spec := "fnExactIsStrong", unfollowed := true, recurses := true, apart := false }
def FnExactIsStrongSaid : Prop := fnExactIsStrongRow.holds Try.pinned (OpenSpec.ofChange fnExactIsStrongSpec)

/-- ITS FALSE NEIGHBOUR: 'it returns false'. Refute it at one input. -/
def fnExactIsStrongWrong : ChangeSpec := { name := "fnExactIsStrong", fn := fun _ => fun
  | [d] => { results := [.lit (.bool false)], args := [d] }
  | _ => none }
def FnExactIsStrongWrongFalsely : Prop := fnExactIsStrongRow.holds Try.pinned (OpenSpec.ofChange fnExactIsStrongWrong)

/-- 'laws.FnExactAllGraphic': WHATEVER THE INPUT: true; the input reads as it did. -/
def fnExactAllGraphicSpec : ChangeSpec := { name := "fnExactAllGraphic", fn := fun _ => fun
  | [d] => { results := [.lit (.bool true)], args := [d] }
  | _ => none }
def fnExactAllGraphicRow : OpenClaim := { program := "ytbdekdelieighab", sum := "ec67c09580364ab9ad992b915b02a540105ca8c070682fffe772d5d8b504541e", func := "loop.example/degreeswaps/laws.FnExactAllGraphic", spec := "fnExactAllGraphic", unfollowed := true, recurses := true, apart := false }
def FnExactAllGraphicSaid : Prop := fnExactAllGraphicRow.holds Try.pinned (OpenSpec.ofChange fnExactAllGraphicSpec)

/-- ITS FALSE NEIGHBOUR: 'it returns false'. Refute it at one input. -/
def fnExactAllGraphicWrong : ChangeSpec := { name := "fnExactAllGraphic", fn := fun _ => fun
  | [d] => { results := [.lit (.bool false)], args := [d] }
  | _ => none }
def FnExactAllGraphicWrongFalsely : Prop := fnExactAllGraphicRow.holds Try.pinned (OpenSpec.ofChange fnExactAllGraphicWrong)

/- THE SECOND FORM. 'bulk': how many values and letters a reading holds, each counted each time it is reached (what is shared counts as often as it is met; a slice's spare places count too). A statement '..UptoSaid' is the law's where the arguments, and the package variables that the reading takes, are together of bulk at most 1048576: NARROWER than '..Said'. Prove '..Said' where nothing that the law and all that it calls make is longer than what came in: it says more and counts as full. Else prove '..UptoSaid'. A law counts once. -/
mutual
def uptoBulk {H : Type} : DataW H → Nat
  | .lit (.string bytes) => bytes.length + 1
  | .lit _ => 1
  | .nil => 1
  | .ptr d => uptoBulk d + 1
  | .slice elems spare => uptoBulkAll elems + uptoBulkAll spare + 1
  | .agg parts => uptoBulkAll parts + 1
  | .iface _ d => uptoBulk d + 1
  | .map entries => uptoBulkEntries entries + 1
  | .held _ => 1
def uptoBulkAll {H : Type} : List (DataW H) → Nat
  | [] => 0
  | d :: r => uptoBulk d + uptoBulkAll r
def uptoBulkEntries {H : Type} : List (Lit × DataW H) → Nat
  | [] => 0
  | x :: r => uptoBulkEntry x + uptoBulkEntries r
def uptoBulkEntry {H : Type} : Lit × DataW H → Nat
  | (.string bytes, d) => bytes.length + uptoBulk d + 1
  | (_, d) => uptoBulk d + 1
 end
def uptoSmall : (H : Type) → List (DataW H) → Bool := fun _ ds => decide (uptoBulkAll ds ≤ 1048576)
def OpenSpec.upto (s : _root_.Go.ChangeSpec) : _root_.Go.OpenSpec := { _root_.Go.OpenSpec.ofChange s with cond := some uptoSmall }

/-- 'laws.FnExactComposeDegrees', WHERE WHAT IT READS IS OF BULK AT MOST 1048576: true; the input reads as it did. -/
def fnExactComposeDegreesUptoRow : OpenClaim := { program := "ytbdekdelieighab", sum := "ec67c09580364ab9ad992b915b02a540105ca8c070682fffe772d5d8b504541e", func := "loop.example/degreeswaps/laws.FnExactComposeDegrees", spec := "fnExactComposeDegrees", unfollowed := true, recurses := true, apart := false, narrowed := true }
def FnExactComposeDegreesUptoSaid : Prop := fnExactComposeDegreesUptoRow.holds Try.pinned (OpenSpec.upto fnExactComposeDegreesSpec)

/-- 'laws.FnExactFillMatrix', WHERE WHAT IT READS IS OF BULK AT MOST 1048576: true; the input reads as it did. -/
def fnExactFillMatrixUptoRow : OpenClaim := { program := "ytbdekdelieighab", sum := "ec67c09580364ab9ad992b915b02a540105ca8c070682fffe772d5d8b504541e", func := "loop.example/degreeswaps/laws.FnExactFillMatrix", spec := "fnExactFillMatrix", unfollowed := true, recurses := true, apart := false, narrowed := true }
def FnExactFillMatrixUptoSaid : Prop := fnExactFillMatrixUptoRow.holds Try.pinned (OpenSpec.upto fnExactFillMatrixSpec)

/-- 'laws.FnExactIsStrong', WHERE WHAT IT READS IS OF BULK AT MOST 1048576: true; the input reads as it did. -/
def fnExactIsStrongUptoRow : OpenClaim := { program := "ytbdekdelieighab", sum := "ec67c09580364ab9ad992b915b02a540105ca8c070682fffe772d5d8b504541e", func := "loop.example/degreeswaps/laws.FnExactIsStrong", spec := "fnExactIsStrong", unfollowed := true, recurses := true, apart := false, narrowed := true }
def FnExactIsStrongUptoSaid : Prop := fnExactIsStrongUptoRow.holds Try.pinned (OpenSpec.upto fnExactIsStrongSpec)

/-- 'laws.FnExactAllGraphic', WHERE WHAT IT READS IS OF BULK AT MOST 1048576: true; the input reads as it did. -/
def fnExactAllGraphicUptoRow : OpenClaim := { program := "ytbdekdelieighab", sum := "ec67c09580364ab9ad992b915b02a540105ca8c070682fffe772d5d8b504541e", func := "loop.example/degreeswaps/laws.FnExactAllGraphic", spec := "fnExactAllGraphic", unfollowed := true, recurses := true, apart := false, narrowed := true }
def FnExactAllGraphicUptoSaid : Prop := fnExactAllGraphicUptoRow.holds Try.pinned (OpenSpec.upto fnExactAllGraphicSpec)

end Rows
end Go.Proofs.Ytbdekdelieighab
