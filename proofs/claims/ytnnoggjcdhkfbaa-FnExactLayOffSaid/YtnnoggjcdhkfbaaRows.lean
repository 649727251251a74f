/-
  No cell of these rows narrows 'for every input' (looked for: loops, veiled, ifaces, maps, wideKeys, modest, calm, conditions, laid).
  DERIVED. THE GIVEN ROWS OF THIS SEAT. 5 by the template 'for every input the law returns true; each argument reads behind the call as it read before'; 0 by the template 'total and deterministic' (their statements: YtnnoggjcdhkfbaaTotals.lean).
  GIVEN WITH THE SEED: the statements are not yours to turn. If you find one false, say at which input.
  Laid BY PROGRAM, IN A SANDBOX (cutbox-rows.mjs): the forced cells as the released guide's own fill.sh prints them over the translation e07adb6652655854… (all of the seat's roots in one cut). By AI agents, Wed Nov 11 2026. No macro, syntax, notation, axiom, sorry.
-/
import Derived.Test.YtnnoggjcdhkfbaaChecked
import GoSem.Claim
import GoSem.ClaimJoined
import GoSem.ClaimMapViews
import Derived.JoinedTies
import Derived.KernelRfl
namespace Go.Proofs.Ytnnoggjcdhkfbaa
/- THE CELL 'sum', in the pinned program and in every row, IS THE sha256 OF THE DUMP (.gsa) THAT YtnnoggjcdhkfbaaProg.lean LOADS. Nothing in Lean hashes anything: it is a label: what it is worth is what the hold of that sum in a sandbox is worth. -/
noncomputable def Try.pinned : Pinned := { name := "ytnnoggjcdhkfbaa", sum := "e07adb66526558546bbaa2becf5e9b5c4bb2eefc149184dcfa8e2617145b1964", checked := Try.checked }
namespace Rows
def none {H : Type} : Left H := { results := [], args := [] }

/-- 'laws.FnExactMapOf': WHATEVER THE INPUT: true; the input reads as it did. -/
def fnExactMapOfSpec : ChangeSpec := { name := "fnExactMapOf", fn := fun _ => fun
  | [d1, d2] => { results := [.lit (.bool true)], args := [d1, d2] }
  | _ => none }
def fnExactMapOfRow : OpenClaim := { program := "ytnnoggjcdhkfbaa", sum := "e07adb66526558546bbaa2becf5e9b5c4bb2eefc149184dcfa8e2617145b1964", func := "loop.example/degreeswaps/laws.FnExactMapOf", spec := "fnExactMapOf", unfollowed := true, recurses := true, apart := false }
def FnExactMapOfSaid : Prop := fnExactMapOfRow.holds Try.pinned (OpenSpec.ofChange fnExactMapOfSpec)

/-- ITS FALSE NEIGHBOUR: 'it returns false'. Refute it at one input. -/
def fnExactMapOfWrong : ChangeSpec := { name := "fnExactMapOf", fn := fun _ => fun
  | [d1, d2] => { results := [.lit (.bool false)], args := [d1, d2] }
  | _ => none }
def FnExactMapOfWrongFalsely : Prop := fnExactMapOfRow.holds Try.pinned (OpenSpec.ofChange fnExactMapOfWrong)

/-- 'laws.FnExactOddParts': WHATEVER THE INPUT: true; the input reads as it did. -/
def fnExactOddPartsSpec : ChangeSpec := { name := "fnExactOddParts", fn := fun _ => fun
  | [d1, d2] => { results := [.lit (.bool true)], args := [d1, d2] }
  | _ => none }
def fnExactOddPartsRow : OpenClaim := { program := "ytnnoggjcdhkfbaa", sum := "e07adb66526558546bbaa2becf5e9b5c4bb2eefc149184dcfa8e2617145b1964", func := "loop.example/degreeswaps/laws.FnExactOddParts", spec := "fnExactOddParts", unfollowed := true, recurses := true, apart := false }
def FnExactOddPartsSaid : Prop := fnExactOddPartsRow.holds Try.pinned (OpenSpec.ofChange fnExactOddPartsSpec)

/-- ITS FALSE NEIGHBOUR: 'it returns false'. Refute it at one input. -/
def fnExactOddPartsWrong : ChangeSpec := { name := "fnExactOddParts", fn := fun _ => fun
  | [d1, d2] => { results := [.lit (.bool false)], args := [d1, d2] }
  | _ => none }
def FnExactOddPartsWrongFalsely : Prop := fnExactOddPartsRow.holds Try.pinned (OpenSpec.ofChange fnExactOddPartsWrong)

/-- 'laws.FnExactFactorRealization': WHATEVER THE INPUT: true; the input reads as it did. -/
def fnExactFactorRealizationSpec : ChangeSpec := { name := "fnExactFactorRealization", fn := fun _ => fun
  | [d1, d2] => { results := [.lit (.bool true)], args := [d1, d2] }
  | _ => none }
def fnExactFactorRealizationRow : OpenClaim := { program := "ytnnoggjcdhkfbaa", sum := "e07adb66526558546bbaa2becf5e9b5c4bb2eefc149184dcfa8e2617145b1964", func := "loop.example/degreeswaps/laws.FnExactFactorRealization", spec := "fnExactFactorRealization", unfollowed := true, recurses := true, apart := false }
def FnExactFactorRealizationSaid : Prop := fnExactFactorRealizationRow.holds Try.pinned (OpenSpec.ofChange fnExactFactorRealizationSpec)

/-- ITS FALSE NEIGHBOUR: 'it returns false'. Refute it at one input. -/
def fnExactFactorRealizationWrong : ChangeSpec := { name := "fnExactFactorRealization", fn := fun _ => fun
  | [d1, d2] => { results := [.lit (.bool false)], args := [d1, d2] }
  | _ => none }
def FnExactFactorRealizationWrongFalsely : Prop := fnExactFactorRealizationRow.holds Try.pinned (OpenSpec.ofChange fnExactFactorRealizationWrong)

/-- 'laws.FnExactLayOff': WHATEVER THE INPUT: true; the input reads as it did. -/
def fnExactLayOffSpec : ChangeSpec := { name := "fnExactLayOff", fn := fun _ => fun
  | [d1, d2] => { results := [.lit (.bool true)], args := [d1, d2] }
  | _ => none }
def fnExactLayOffRow : OpenClaim := { program := "ytnnoggjcdhkfbaa", sum := "e07adb66526558546bbaa2becf5e9b5c4bb2eefc149184dcfa8e2617145b1964", func := "loop.example/degreeswaps/laws.FnExactLayOff", spec := "fnExactLayOff", unfollowed := true, recurses := true, apart := false }
def FnExactLayOffSaid : Prop := fnExactLayOffRow.holds Try.pinned (OpenSpec.ofChange fnExactLayOffSpec)

/-- ITS FALSE NEIGHBOUR: 'it returns false'. Refute it at one input. -/
def fnExactLayOffWrong : ChangeSpec := { name := "fnExactLayOff", fn := fun _ => fun
  | [d1, d2] => { results := [.lit (.bool false)], args := [d1, d2] }
  | _ => none }
def FnExactLayOffWrongFalsely : Prop := fnExactLayOffRow.holds Try.pinned (OpenSpec.ofChange fnExactLayOffWrong)

/-- 'laws.FnExactCodeOf': WHATEVER THE INPUT: true; the input reads as it did. -/
def fnExactCodeOfSpec : ChangeSpec := { name := "fnExactCodeOf", fn := fun _ => fun
  | [d] => { results := [.lit (.bool true)], args := [d] }
  | _ => none }
def fnExactCodeOfRow : OpenClaim := { program := "ytnnoggjcdhkfbaa", sum := "e07adb66526558546bbaa2becf5e9b5c4bb2eefc149184dcfa8e2617145b1964", func := "loop.example/degreeswaps/laws.FnExactCodeOf", spec := "fnExactCodeOf", unfollowed := true, recurses := true, apart := false }
def FnExactCodeOfSaid : Prop := fnExactCodeOfRow.holds Try.pinned (OpenSpec.ofChange fnExactCodeOfSpec)

/-- ITS FALSE NEIGHBOUR: 'it returns false'. Refute it at one input. -/
def fnExactCodeOfWrong : ChangeSpec := { name := "fnExactCodeOf", fn := fun _ => fun
  | [d] => { results := [.lit (.bool false)], args := [d] }
  | _ => none }
def FnExactCodeOfWrongFalsely : Prop := fnExactCodeOfRow.holds Try.pinned (OpenSpec.ofChange fnExactCodeOfWrong)

/- THE SECOND FORM. 'bulk': how many values and letters a reading holds, each counted each time it is reached (what is shared counts as often as it is met; a slice's spare places count too). A statement '..UptoSaid' is the law's where the arguments, and the package variables that the reading takes, are together of bulk at most 1048576: NARROWER than '..Said'. Prove '..Said' where nothing that the law and all that it calls make is longer than what came in: it says more and counts as full. Else prove '..UptoSaid'. A law counts once. -/
mutual
def uptoBulk {H : Type} : DataW H → Nat
  | .lit (.string bytes) => bytes.length + 1
  | .lit _ => 1
  | .nil => 1
  | .ptr d => uptoBulk d + 1
  | .slice elems spare => uptoBulkAll elems + uptoBulkAll spare + 1
  | .agg parts => uptoBulkAll parts + 1
  | .iface _ d => uptoBulk d + 1
  | .map entries => uptoBulkEntries entries + 1
  | .held _ => 1
def uptoBulkAll {H : Type} : List (DataW H) → Nat
  | [] => 0
  | d :: r => uptoBulk d + uptoBulkAll r
def uptoBulkEntries {H : Type} : List (Lit × DataW H) → Nat
  | [] => 0
  | x :: r => uptoBulkEntry x + uptoBulkEntries r
def uptoBulkEntry {H : Type} : Lit × DataW H → Nat
  | (.string bytes, d) => bytes.length + uptoBulk d + 1
  | (_, d) => uptoBulk d + 1
 end
def uptoSmall : (H : Type) → List (DataW H) → Bool := fun _ ds => decide (uptoBulkAll ds ≤ 1048576)
def OpenSpec.upto (s : _root_.Go.ChangeSpec) : _root_.Go.OpenSpec := { _root_.Go.OpenSpec.ofChange s with cond := some uptoSmall }

/-- 'laws.FnExactMapOf', WHERE WHAT IT READS IS OF BULK AT MOST 1048576: true; the input reads as it did. -/
def fnExactMapOfUptoRow : OpenClaim := { program := "ytnnoggjcdhkfbaa", sum := "e07adb66526558546bbaa2becf5e9b5c4bb2eefc149184dcfa8e2617145b1964", func := "loop.example/degreeswaps/laws.FnExactMapOf", spec := "fnExactMapOf", unfollowed := true, recurses := true, apart := false, narrowed := true }
def FnExactMapOfUptoSaid : Prop := fnExactMapOfUptoRow.holds Try.pinned (OpenSpec.upto fnExactMapOfSpec)

/-- 'laws.FnExactOddParts', WHERE WHAT IT READS IS OF BULK AT MOST 1048576: true; the input reads as it did. -/
def fnExactOddPartsUptoRow : OpenClaim := { program := "ytnnoggjcdhkfbaa", sum := "e07adb66526558546bbaa2becf5e9b5c4bb2eefc149184dcfa8e2617145b1964", func := "loop.example/degreeswaps/laws.FnExactOddParts", spec := "fnExactOddParts", unfollowed := true, recurses := true, apart := false, narrowed := true }
def FnExactOddPartsUptoSaid : Prop := fnExactOddPartsUptoRow.holds Try.pinned (OpenSpec.upto fnExactOddPartsSpec)

/-- 'laws.FnExactFactorRealization', WHERE WHAT IT READS IS OF BULK AT MOST 1048576: true; the input reads as it did. -/
def fnExactFactorRealizationUptoRow : OpenClaim := { program := "ytnnoggjcdhkfbaa", sum := "e07adb66526558546bbaa2becf5e9b5c4bb2eefc149184dcfa8e2617145b1964", func := "loop.example/degreeswaps/laws.FnExactFactorRealization", spec := "fnExactFactorRealization", unfollowed := true, recurses := true, apart := false, narrowed := true }
def FnExactFactorRealizationUptoSaid : Prop := fnExactFactorRealizationUptoRow.holds Try.pinned (OpenSpec.upto fnExactFactorRealizationSpec)

/-- 'laws.FnExactLayOff', WHERE WHAT IT READS IS OF BULK AT MOST 1048576: true; the input reads as it did. -/
def fnExactLayOffUptoRow : OpenClaim := { program := "ytnnoggjcdhkfbaa", sum := "e07adb66526558546bbaa2becf5e9b5c4bb2eefc149184dcfa8e2617145b1964", func := "loop.example/degreeswaps/laws.FnExactLayOff", spec := "fnExactLayOff", unfollowed := true, recurses := true, apart := false, narrowed := true }
def FnExactLayOffUptoSaid : Prop := fnExactLayOffUptoRow.holds Try.pinned (OpenSpec.upto fnExactLayOffSpec)

/-- 'laws.FnExactCodeOf', WHERE WHAT IT READS IS OF BULK AT MOST 1048576: true; the input reads as it did. -/
def fnExactCodeOfUptoRow : OpenClaim := { program := "ytnnoggjcdhkfbaa", sum := "e07adb66526558546bbaa2becf5e9b5c4bb2eefc149184dcfa8e2617145b1964", func := "loop.example/degreeswaps/laws.FnExactCodeOf", spec := "fnExactCodeOf", unfollowed := true, recurses := true, apart := false, narrowed := true }
def FnExactCodeOfUptoSaid : Prop := fnExactCodeOfUptoRow.holds Try.pinned (OpenSpec.upto fnExactCodeOfSpec)

end Rows
end Go.Proofs.Ytnnoggjcdhkfbaa
