/-
  No cell of these rows narrows 'for every input' (looked for: loops, veiled, ifaces, maps, wideKeys, modest, calm, conditions, laid).
  DERIVED. THE GIVEN ROWS OF THIS SEAT. 6 by the template 'for every input the law returns true; each argument reads behind the call as it read before'; 0 by the template 'total and deterministic' (their statements: YtlgkooeflgmcaabTotals.lean).
  GIVEN WITH THE SEED: the statements are not yours to turn. If you find one false, say at which input.
  Laid BY PROGRAM, IN A SANDBOX (cutbox-rows.mjs): the forced cells as the released guide's own fill.sh prints them over the translation c898854b79fb8ebe… (all of the seat's roots in one cut). By AI agents, Wed Nov 11 2026. No macro, syntax, notation, axiom, sorry.
-/
import Derived.Test.YtlgkooeflgmcaabChecked
import GoSem.Claim
import GoSem.ClaimJoined
import GoSem.ClaimMapViews
import Derived.JoinedTies
import Derived.KernelRfl
namespace Go.Proofs.Ytlgkooeflgmcaab
/- THE CELL 'sum', in the pinned program and in every row, IS THE sha256 OF THE DUMP (.gsa) THAT YtlgkooeflgmcaabProg.lean LOADS. Nothing in Lean hashes anything: it is a label: what it is worth is what the hold of that sum in a sandbox is worth. -/
noncomputable def Try.pinned : Pinned := { name := "ytlgkooeflgmcaab", sum := "c898854b79fb8ebeb8f36619b4759b054ce229b9e7e213965c7ea3ada12fd30d", checked := Try.checked }
namespace Rows
def none {H : Type} : Left H := { results := [], args := [] }

/-- 'laws.FnExactOddParts': WHATEVER THE INPUT: true; the input reads as it did. -/
def fnExactOddPartsSpec : ChangeSpec := { name := "fnExactOddParts", fn := fun _ => fun
  | [d1, d2] => { results := [.lit (.bool true)], args := [d1, d2] }
  | _ => none }
def fnExactOddPartsRow : OpenClaim := { program := "ytlgkooeflgmcaab", sum := "c898854b79fb8ebeb8f36619b4759b054ce229b9e7e213965c7ea3ada12fd30d", func := "loop.example/degreeswaps/laws.FnExactOddParts", spec := "fnExactOddParts", unfollowed := true, recurses := true, apart := false }
def FnExactOddPartsSaid : Prop := fnExactOddPartsRow.holds Try.pinned (OpenSpec.ofChange fnExactOddPartsSpec)

/-- ITS FALSE NEIGHBOUR: 'it returns false'. Refute it at one input. -/
def fnExactOddPartsWrong : ChangeSpec := { name := "fnExactOddParts", fn := fun _ => fun
  | [d1, d2] => { results := [.lit (.bool false)], args := [d1, d2] }
  | _ => none }
def FnExactOddPartsWrongFalsely : Prop := fnExactOddPartsRow.holds Try.pinned (OpenSpec.ofChange fnExactOddPartsWrong)

/-- 'laws.FnExactMapOf': WHATEVER THE INPUT: true; the input reads as it did. -/
def fnExactMapOfSpec : ChangeSpec := { name := "fnExactMapOf", fn := fun _ => fun
  | [d1, d2] => { results := [.lit (.bool true)], args := [d1, d2] }
  | _ => none }
def fnExactMapOfRow : OpenClaim := { program := "ytlgkooeflgmcaab", sum := "c898854b79fb8ebeb8f36619b4759b054ce229b9e7e213965c7ea3ada12fd30d", func := "loop.example/degreeswaps/laws.FnExactMapOf", spec := "fnExactMapOf", unfollowed := true, recurses := true, apart := false }
def FnExactMapOfSaid : Prop := fnExactMapOfRow.holds Try.pinned (OpenSpec.ofChange fnExactMapOfSpec)

/-- ITS FALSE NEIGHBOUR: 'it returns false'. Refute it at one input. -/
def fnExactMapOfWrong : ChangeSpec := { name := "fnExactMapOf", fn := fun _ => fun
  | [d1, d2] => { results := [.lit (.bool false)], args := [d1, d2] }
  | _ => none }
def FnExactMapOfWrongFalsely : Prop := fnExactMapOfRow.holds Try.pinned (OpenSpec.ofChange fnExactMapOfWrong)

/-- 'laws.FnExactFactorRealization': WHATEVER THE INPUT: true; the input reads as it did. -/
def fnExactFactorRealizationSpec : ChangeSpec := { name := "fnExactFactorRealization", fn := fun _ => fun
  | [d1, d2] => { results := [.lit (.bool true)], args := [d1, d2] }
  | _ => none }
def fnExactFactorRealizationRow : OpenClaim := { program := "ytlgkooeflgmcaab", sum := "c898854b79fb8ebeb8f36619b4759b054ce229b9e7e213965c7ea3ada12fd30d", func := "loop.example/degreeswaps/laws.FnExactFactorRealization", spec := "fnExactFactorRealization", unfollowed := true, recurses := true, apart := false }
def FnExactFactorRealizationSaid : Prop := fnExactFactorRealizationRow.holds Try.pinned (OpenSpec.ofChange fnExactFactorRealizationSpec)

/-- ITS FALSE NEIGHBOUR: 'it returns false'. Refute it at one input. -/
def fnExactFactorRealizationWrong : ChangeSpec := { name := "fnExactFactorRealization", fn := fun _ => fun
  | [d1, d2] => { results := [.lit (.bool false)], args := [d1, d2] }
  | _ => none }
def FnExactFactorRealizationWrongFalsely : Prop := fnExactFactorRealizationRow.holds Try.pinned (OpenSpec.ofChange fnExactFactorRealizationWrong)

/-- 'laws.FnExactPackDegrees': WHATEVER THE INPUT: true; the input reads as it did. -/
def fnExactPackDegreesSpec : ChangeSpec := { name := "fnExactPackDegrees", fn := fun _ => fun
  | [d1, d2] => { results := [.lit (.bool true)], args := [d1, d2] }
  | _ => none }
def fnExactPackDegreesRow : OpenClaim := { program := "ytlgkooeflgmcaab", sum := "c898854b79fb8ebeb8f36619b4759b054ce229b9e7e213965c7ea3ada12fd30d", func := "loop.example/degreeswaps/laws.FnExactPackDegrees", spec := "fnExactPackDegrees", unfollowed := true, recurses := true, apart := false }
def FnExactPackDegreesSaid : Prop := fnExactPackDegreesRow.holds Try.pinned (OpenSpec.ofChange fnExactPackDegreesSpec)

/-- ITS FALSE NEIGHBOUR: 'it returns false'. Refute it at one input. -/
def fnExactPackDegreesWrong : ChangeSpec := { name := "fnExactPackDegrees", fn := fun _ => fun
  | [d1, d2] => { results := [.lit (.bool false)], args := [d1, d2] }
  | _ => none }
def FnExactPackDegreesWrongFalsely : Prop := fnExactPackDegreesRow.holds Try.pinned (OpenSpec.ofChange fnExactPackDegreesWrong)

/-- 'laws.FnExactIsUnigraph': WHATEVER THE INPUT: true; the input reads as it did. -/
def fnExactIsUnigraphSpec : ChangeSpec := { name := "fnExactIsUnigraph", fn := fun _ => fun
  | [d] => { results := [.lit (.bool true)], args := [d] }
  | _ => none }
def fnExactIsUnigraphRow : OpenClaim := { program := "ytlgkooeflgmcaab", sum := "c898854b79fb8ebeb8f36619b4759b054ce229b9e7e213965c7ea3ada12fd30d", func := "loop.example/degreeswaps/laws.FnExactIsUnigraph", spec := "fnExactIsUnigraph", unfollowed := true, recurses := true, apart := false }
def FnExactIsUnigraphSaid : Prop := fnExactIsUnigraphRow.holds Try.pinned (OpenSpec.ofChange fnExactIsUnigraphSpec)

/-- ITS FALSE NEIGHBOUR: 'it returns false'. Refute it at one input. -/
def fnExactIsUnigraphWrong : ChangeSpec := { name := "fnExactIsUnigraph", fn := fun _ => fun
  | [d] => { results := [.lit (.bool false)], args := [d] }
  | _ => none }
def FnExactIsUnigraphWrongFalsely : Prop := fnExactIsUnigraphRow.holds Try.pinned (OpenSpec.ofChange fnExactIsUnigraphWrong)

/-- 'laws.FnExactBarrierOf': WHATEVER THE INPUT: true; the input reads as it did. -/
def fnExactBarrierOfSpec : ChangeSpec := { name := "fnExactBarrierOf", fn := fun _ => fun
  | [d] => { results := [.lit (.bool true)], args := [d] }
  | _ => none }
def fnExactBarrierOfRow : OpenClaim := { program := "ytlgkooeflgmcaab", sum := "c898854b79fb8ebeb8f36619b4759b054ce229b9e7e213965c7ea3ada12fd30d", func := "loop.example/degreeswaps/laws.FnExactBarrierOf", spec := "fnExactBarrierOf", unfollowed := true, recurses := true, apart := false }
def FnExactBarrierOfSaid : Prop := fnExactBarrierOfRow.holds Try.pinned (OpenSpec.ofChange fnExactBarrierOfSpec)

/-- ITS FALSE NEIGHBOUR: 'it returns false'. Refute it at one input. -/
def fnExactBarrierOfWrong : ChangeSpec := { name := "fnExactBarrierOf", fn := fun _ => fun
  | [d] => { results := [.lit (.bool false)], args := [d] }
  | _ => none }
def FnExactBarrierOfWrongFalsely : Prop := fnExactBarrierOfRow.holds Try.pinned (OpenSpec.ofChange fnExactBarrierOfWrong)

/- THE SECOND FORM. 'bulk': how many values and letters a reading holds, each counted each time it is reached (what is shared counts as often as it is met; a slice's spare places count too). A statement '..UptoSaid' is the law's where the arguments, and the package variables that the reading takes, are together of bulk at most 1048576: NARROWER than '..Said'. Prove '..Said' where nothing that the law and all that it calls make is longer than what came in: it says more and counts as full. Else prove '..UptoSaid'. A law counts once. -/
mutual
def uptoBulk {H : Type} : DataW H → Nat
  | .lit (.string bytes) => bytes.length + 1
  | .lit _ => 1
  | .nil => 1
  | .ptr d => uptoBulk d + 1
  | .slice elems spare => uptoBulkAll elems + uptoBulkAll spare + 1
  | .agg parts => uptoBulkAll parts + 1
  | .iface _ d => uptoBulk d + 1
  | .map entries => uptoBulkEntries entries + 1
  | .held _ => 1
def uptoBulkAll {H : Type} : List (DataW H) → Nat
  | [] => 0
  | d :: r => uptoBulk d + uptoBulkAll r
def uptoBulkEntries {H : Type} : List (Lit × DataW H) → Nat
  | [] => 0
  | x :: r => uptoBulkEntry x + uptoBulkEntries r
def uptoBulkEntry {H : Type} : Lit × DataW H → Nat
  | (.string bytes, d) => bytes.length + uptoBulk d + 1
  | (_, d) => uptoBulk d + 1
 end
def uptoSmall : (H : Type) → List (DataW H) → Bool := fun _ ds => decide (uptoBulkAll ds ≤ 1048576)
def OpenSpec.upto (s : _root_.Go.ChangeSpec) : _root_.Go.OpenSpec := { _root_.Go.OpenSpec.ofChange s with cond := some uptoSmall }

/-- 'laws.FnExactOddParts', WHERE WHAT IT READS IS OF BULK AT MOST 1048576: true; the input reads as it did. -/
def fnExactOddPartsUptoRow : OpenClaim := { program := "ytlgkooeflgmcaab", sum := "c898854b79fb8ebeb8f36619b4759b054ce229b9e7e213965c7ea3ada12fd30d", func := "loop.example/degreeswaps/laws.FnExactOddParts", spec := "fnExactOddParts", unfollowed := true, recurses := true, apart := false, narrowed := true }
def FnExactOddPartsUptoSaid : Prop := fnExactOddPartsUptoRow.holds Try.pinned (OpenSpec.upto fnExactOddPartsSpec)

/-- 'laws.FnExactMapOf', WHERE WHAT IT READS IS OF BULK AT MOST 1048576: true; the input reads as it did. -/
def fnExactMapOfUptoRow : OpenClaim := { program := "ytlgkooeflgmcaab", sum := "c898854b79fb8ebeb8f36619b4759b054ce229b9e7e213965c7ea3ada12fd30d", func := "loop.example/degreeswaps/laws.FnExactMapOf", spec := "fnExactMapOf", unfollowed := true, recurses := true, apart := false, narrowed := true }
def FnExactMapOfUptoSaid : Prop := fnExactMapOfUptoRow.holds Try.pinned (OpenSpec.upto fnExactMapOfSpec)

/-- 'laws.FnExactFactorRealization', WHERE WHAT IT READS IS OF BULK AT MOST 1048576: true; the input reads as it did. -/
def fnExactFactorRealizationUptoRow : OpenClaim := { program := "ytlgkooeflgmcaab", sum := "c898854b79fb8ebeb8f36619b4759b054ce229b9e7e213965c7ea3ada12fd30d", func := "loop.example/degreeswaps/laws.FnExactFactorRealization", spec := "fnExactFactorRealization", unfollowed := true, recurses := true, apart := false, narrowed := true }
def FnExactFactorRealizationUptoSaid : Prop := fnExactFactorRealizationUptoRow.holds Try.pinned (OpenSpec.upto fnExactFactorRealizationSpec)

/-- 'laws.FnExactPackDegrees', WHERE WHAT IT READS IS OF BULK AT MOST 1048576: true; the input reads as it did. -/
def fnExactPackDegreesUptoRow : OpenClaim := { program := "ytlgkooeflgmcaab", sum := "c898854b79fb8ebeb8f36619b4759b054ce229b9e7e213965c7ea3ada12fd30d", func := "loop.example/degreeswaps/laws.FnExactPackDegrees", spec := "fnExactPackDegrees", unfollowed := true, recurses := true, apart := false, narrowed := true }
def FnExactPackDegreesUptoSaid : Prop := fnExactPackDegreesUptoRow.holds Try.pinned (OpenSpec.upto fnExactPackDegreesSpec)

/-- 'laws.FnExactIsUnigraph', WHERE WHAT IT READS IS OF BULK AT MOST 1048576: true; the input reads as it did. -/
def fnExactIsUnigraphUptoRow : OpenClaim := { program := "ytlgkooeflgmcaab", sum := "c898854b79fb8ebeb8f36619b4759b054ce229b9e7e213965c7ea3ada12fd30d", func := "loop.example/degreeswaps/laws.FnExactIsUnigraph", spec := "fnExactIsUnigraph", unfollowed := true, recurses := true, apart := false, narrowed := true }
def FnExactIsUnigraphUptoSaid : Prop := fnExactIsUnigraphUptoRow.holds Try.pinned (OpenSpec.upto fnExactIsUnigraphSpec)

/-- 'laws.FnExactBarrierOf', WHERE WHAT IT READS IS OF BULK AT MOST 1048576: true; the input reads as it did. -/
def fnExactBarrierOfUptoRow : OpenClaim := { program := "ytlgkooeflgmcaab", sum := "c898854b79fb8ebeb8f36619b4759b054ce229b9e7e213965c7ea3ada12fd30d", func := "loop.example/degreeswaps/laws.FnExactBarrierOf", spec := "fnExactBarrierOf", unfollowed := true, recurses := true, apart := false, narrowed := true }
def FnExactBarrierOfUptoSaid : Prop := fnExactBarrierOfUptoRow.holds Try.pinned (OpenSpec.upto fnExactBarrierOfSpec)

end Rows
end Go.Proofs.Ytlgkooeflgmcaab
