/-
  No cell of these rows narrows 'for every input' (looked for: loops, veiled, ifaces, maps, wideKeys, modest, calm, conditions, laid).
  DERIVED. THE GIVEN ROWS OF THIS SEAT. 6 by the template 'for every input the law returns true; each argument reads behind the call as it read before'; 0 by the template 'total and deterministic' (their statements: YtlgkooeflgmcaaaTotals.lean).
  GIVEN WITH THE SEED: the statements are not yours to turn. If you find one false, say at which input.
  Laid BY PROGRAM, IN A SANDBOX (cutbox-rows.mjs): the forced cells as the released guide's own fill.sh prints them over the translation b6253c6e0389363d… (all of the seat's roots in one cut). By AI agents, Wed Nov 11 2026. No macro, syntax, notation, axiom, sorry.
-/
import Derived.Test.YtlgkooeflgmcaaaChecked
import GoSem.Claim
import GoSem.ClaimJoined
import GoSem.ClaimMapViews
import Derived.JoinedTies
import Derived.KernelRfl
namespace Go.Proofs.Ytlgkooeflgmcaaa
/- THE CELL 'sum', in the pinned program and in every row, IS THE sha256 OF THE DUMP (.gsa) THAT YtlgkooeflgmcaaaProg.lean LOADS. Nothing in Lean hashes anything: it is a label: what it is worth is what the hold of that sum in a sandbox is worth. -/
noncomputable def Try.pinned : Pinned := { name := "ytlgkooeflgmcaaa", sum := "b6253c6e0389363d29517f653901d65a78f0b705ab2c3879b522d5b52a14cf07", checked := Try.checked }
namespace Rows
def none {H : Type} : Left H := { results := [], args := [] }

/-- 'laws.FnFirstFailing': WHATEVER THE INPUT: true; the input reads as it did. -/
def fnFirstFailingSpec : ChangeSpec := { name := "fnFirstFailing", fn := fun _ => fun
  | [d] => { results := [.lit (.bool true)], args := [d] }
  | _ => none }
def fnFirstFailingRow : OpenClaim := { program := "ytlgkooeflgmcaaa", sum := "b6253c6e0389363d29517f653901d65a78f0b705ab2c3879b522d5b52a14cf07", func := "loop.example/degreeswaps/laws.FnFirstFailing", spec := "fnFirstFailing", unfollowed := true, recurses := true, apart := false }
def FnFirstFailingSaid : Prop := fnFirstFailingRow.holds Try.pinned (OpenSpec.ofChange fnFirstFailingSpec)

/-- ITS FALSE NEIGHBOUR: 'it returns false'. Refute it at one input. -/
def fnFirstFailingWrong : ChangeSpec := { name := "fnFirstFailing", fn := fun _ => fun
  | [d] => { results := [.lit (.bool false)], args := [d] }
  | _ => none }
def FnFirstFailingWrongFalsely : Prop := fnFirstFailingRow.holds Try.pinned (OpenSpec.ofChange fnFirstFailingWrong)

/-- 'laws.FnDurfeeOf': WHATEVER THE INPUT: true; the input reads as it did. -/
def fnDurfeeOfSpec : ChangeSpec := { name := "fnDurfeeOf", fn := fun _ => fun
  | [d] => { results := [.lit (.bool true)], args := [d] }
  | _ => none }
def fnDurfeeOfRow : OpenClaim := { program := "ytlgkooeflgmcaaa", sum := "b6253c6e0389363d29517f653901d65a78f0b705ab2c3879b522d5b52a14cf07", func := "loop.example/degreeswaps/laws.FnDurfeeOf", spec := "fnDurfeeOf", unfollowed := true, recurses := true, apart := false }
def FnDurfeeOfSaid : Prop := fnDurfeeOfRow.holds Try.pinned (OpenSpec.ofChange fnDurfeeOfSpec)

/-- ITS FALSE NEIGHBOUR: 'it returns false'. Refute it at one input. -/
def fnDurfeeOfWrong : ChangeSpec := { name := "fnDurfeeOf", fn := fun _ => fun
  | [d] => { results := [.lit (.bool false)], args := [d] }
  | _ => none }
def FnDurfeeOfWrongFalsely : Prop := fnDurfeeOfRow.holds Try.pinned (OpenSpec.ofChange fnDurfeeOfWrong)

/-- 'laws.FnSortDegrees': WHATEVER THE INPUT: true; the input reads as it did. -/
def fnSortDegreesSpec : ChangeSpec := { name := "fnSortDegrees", fn := fun _ => fun
  | [d] => { results := [.lit (.bool true)], args := [d] }
  | _ => none }
def fnSortDegreesRow : OpenClaim := { program := "ytlgkooeflgmcaaa", sum := "b6253c6e0389363d29517f653901d65a78f0b705ab2c3879b522d5b52a14cf07", func := "loop.example/degreeswaps/laws.FnSortDegrees", spec := "fnSortDegrees", unfollowed := true, recurses := true, apart := false }
def FnSortDegreesSaid : Prop := fnSortDegreesRow.holds Try.pinned (OpenSpec.ofChange fnSortDegreesSpec)

/-- ITS FALSE NEIGHBOUR: 'it returns false'. Refute it at one input. -/
def fnSortDegreesWrong : ChangeSpec := { name := "fnSortDegrees", fn := fun _ => fun
  | [d] => { results := [.lit (.bool false)], args := [d] }
  | _ => none }
def FnSortDegreesWrongFalsely : Prop := fnSortDegreesRow.holds Try.pinned (OpenSpec.ofChange fnSortDegreesWrong)

/-- 'laws.FnConjugateOf': WHATEVER THE INPUT: true; the input reads as it did. -/
def fnConjugateOfSpec : ChangeSpec := { name := "fnConjugateOf", fn := fun _ => fun
  | [d] => { results := [.lit (.bool true)], args := [d] }
  | _ => none }
def fnConjugateOfRow : OpenClaim := { program := "ytlgkooeflgmcaaa", sum := "b6253c6e0389363d29517f653901d65a78f0b705ab2c3879b522d5b52a14cf07", func := "loop.example/degreeswaps/laws.FnConjugateOf", spec := "fnConjugateOf", unfollowed := true, recurses := true, apart := false }
def FnConjugateOfSaid : Prop := fnConjugateOfRow.holds Try.pinned (OpenSpec.ofChange fnConjugateOfSpec)

/-- ITS FALSE NEIGHBOUR: 'it returns false'. Refute it at one input. -/
def fnConjugateOfWrong : ChangeSpec := { name := "fnConjugateOf", fn := fun _ => fun
  | [d] => { results := [.lit (.bool false)], args := [d] }
  | _ => none }
def FnConjugateOfWrongFalsely : Prop := fnConjugateOfRow.holds Try.pinned (OpenSpec.ofChange fnConjugateOfWrong)

/-- 'laws.FnIsMultigraphic': WHATEVER THE INPUT: true; the input reads as it did. -/
def fnIsMultigraphicSpec : ChangeSpec := { name := "fnIsMultigraphic", fn := fun _ => fun
  | [d] => { results := [.lit (.bool true)], args := [d] }
  | _ => none }
def fnIsMultigraphicRow : OpenClaim := { program := "ytlgkooeflgmcaaa", sum := "b6253c6e0389363d29517f653901d65a78f0b705ab2c3879b522d5b52a14cf07", func := "loop.example/degreeswaps/laws.FnIsMultigraphic", spec := "fnIsMultigraphic", unfollowed := true, recurses := true, apart := false }
def FnIsMultigraphicSaid : Prop := fnIsMultigraphicRow.holds Try.pinned (OpenSpec.ofChange fnIsMultigraphicSpec)

/-- ITS FALSE NEIGHBOUR: 'it returns false'. Refute it at one input. -/
def fnIsMultigraphicWrong : ChangeSpec := { name := "fnIsMultigraphic", fn := fun _ => fun
  | [d] => { results := [.lit (.bool false)], args := [d] }
  | _ => none }
def FnIsMultigraphicWrongFalsely : Prop := fnIsMultigraphicRow.holds Try.pinned (OpenSpec.ofChange fnIsMultigraphicWrong)

/-- 'laws.FnValidDegrees': WHATEVER THE INPUT: true; the input reads as it did. -/
def fnValidDegreesSpec : ChangeSpec := { name := "fnValidDegrees", fn := fun _ => fun
  | [d] => { results := [.lit (.bool true)], args := [d] }
  | _ => none }
def fnValidDegreesRow : OpenClaim := { program := "ytlgkooeflgmcaaa", sum := "b6253c6e0389363d29517f653901d65a78f0b705ab2c3879b522d5b52a14cf07", func := "loop.example/degreeswaps/laws.FnValidDegrees", spec := "fnValidDegrees", unfollowed := true, recurses := true, apart := false }
def FnValidDegreesSaid : Prop := fnValidDegreesRow.holds Try.pinned (OpenSpec.ofChange fnValidDegreesSpec)

/-- ITS FALSE NEIGHBOUR: 'it returns false'. Refute it at one input. -/
def fnValidDegreesWrong : ChangeSpec := { name := "fnValidDegrees", fn := fun _ => fun
  | [d] => { results := [.lit (.bool false)], args := [d] }
  | _ => none }
def FnValidDegreesWrongFalsely : Prop := fnValidDegreesRow.holds Try.pinned (OpenSpec.ofChange fnValidDegreesWrong)

/- THE SECOND FORM. 'bulk': how many values and letters a reading holds, each counted each time it is reached (what is shared counts as often as it is met; a slice's spare places count too). A statement '..UptoSaid' is the law's where the arguments, and the package variables that the reading takes, are together of bulk at most 1048576: NARROWER than '..Said'. Prove '..Said' where nothing that the law and all that it calls make is longer than what came in: it says more and counts as full. Else prove '..UptoSaid'. A law counts once. -/
mutual
def uptoBulk {H : Type} : DataW H → Nat
  | .lit (.string bytes) => bytes.length + 1
  | .lit _ => 1
  | .nil => 1
  | .ptr d => uptoBulk d + 1
  | .slice elems spare => uptoBulkAll elems + uptoBulkAll spare + 1
  | .agg parts => uptoBulkAll parts + 1
  | .iface _ d => uptoBulk d + 1
  | .map entries => uptoBulkEntries entries + 1
  | .held _ => 1
def uptoBulkAll {H : Type} : List (DataW H) → Nat
  | [] => 0
  | d :: r => uptoBulk d + uptoBulkAll r
def uptoBulkEntries {H : Type} : List (Lit × DataW H) → Nat
  | [] => 0
  | x :: r => uptoBulkEntry x + uptoBulkEntries r
def uptoBulkEntry {H : Type} : Lit × DataW H → Nat
  | (.string bytes, d) => bytes.length + uptoBulk d + 1
  | (_, d) => uptoBulk d + 1
 end
def uptoSmall : (H : Type) → List (DataW H) → Bool := fun _ ds => decide (uptoBulkAll ds ≤ 1048576)
def OpenSpec.upto (s : _root_.Go.ChangeSpec) : _root_.Go.OpenSpec := { _root_.Go.OpenSpec.ofChange s with cond := some uptoSmall }

/-- 'laws.FnFirstFailing', WHERE WHAT IT READS IS OF BULK AT MOST 1048576: true; the input reads as it did. -/
def fnFirstFailingUptoRow : OpenClaim := { program := "ytlgkooeflgmcaaa", sum := "b6253c6e0389363d29517f653901d65a78f0b705ab2c3879b522d5b52a14cf07", func := "loop.example/degreeswaps/laws.FnFirstFailing", spec := "fnFirstFailing", unfollowed := true, recurses := true, apart := false, narrowed := true }
def FnFirstFailingUptoSaid : Prop := fnFirstFailingUptoRow.holds Try.pinned (OpenSpec.upto fnFirstFailingSpec)

/-- 'laws.FnDurfeeOf', WHERE WHAT IT READS IS OF BULK AT MOST 1048576: true; the input reads as it did. -/
def fnDurfeeOfUptoRow : OpenClaim := { program := "ytlgkooeflgmcaaa", sum := "b6253c6e0389363d29517f653901d65a78f0b705ab2c3879b522d5b52a14cf07", func := "loop.example/degreeswaps/laws.FnDurfeeOf", spec := "fnDurfeeOf", unfollowed := true, recurses := true, apart := false, narrowed := true }
def FnDurfeeOfUptoSaid : Prop := fnDurfeeOfUptoRow.holds Try.pinned (OpenSpec.upto fnDurfeeOfSpec)

/-- 'laws.FnSortDegrees', WHERE WHAT IT READS IS OF BULK AT MOST 1048576: true; the input reads as it did. -/
def fnSortDegreesUptoRow : OpenClaim := { program := "ytlgkooeflgmcaaa", sum := "b6253c6e0389363d29517f653901d65a78f0b705ab2c3879b522d5b52a14cf07", func := "loop.example/degreeswaps/laws.FnSortDegrees", spec := "fnSortDegrees", unfollowed := true, recurses := true, apart := false, narrowed := true }
def FnSortDegreesUptoSaid : Prop := fnSortDegreesUptoRow.holds Try.pinned (OpenSpec.upto fnSortDegreesSpec)

/-- 'laws.FnConjugateOf', WHERE WHAT IT READS IS OF BULK AT MOST 1048576: true; the input reads as it did. -/
def fnConjugateOfUptoRow : OpenClaim := { program := "ytlgkooeflgmcaaa", sum := "b6253c6e0389363d29517f653901d65a78f0b705ab2c3879b522d5b52a14cf07", func := "loop.example/degreeswaps/laws.FnConjugateOf", spec := "fnConjugateOf", unfollowed := true, recurses := true, apart := false, narrowed := true }
def FnConjugateOfUptoSaid : Prop := fnConjugateOfUptoRow.holds Try.pinned (OpenSpec.upto fnConjugateOfSpec)

/-- 'laws.FnIsMultigraphic', WHERE WHAT IT READS IS OF BULK AT MOST 1048576: true; the input reads as it did. -/
def fnIsMultigraphicUptoRow : OpenClaim := { program := "ytlgkooeflgmcaaa", sum := "b6253c6e0389363d29517f653901d65a78f0b705ab2c3879b522d5b52a14cf07", func := "loop.example/degreeswaps/laws.FnIsMultigraphic", spec := "fnIsMultigraphic", unfollowed := true, recurses := true, apart := false, narrowed := true }
def FnIsMultigraphicUptoSaid : Prop := fnIsMultigraphicUptoRow.holds Try.pinned (OpenSpec.upto fnIsMultigraphicSpec)

/-- 'laws.FnValidDegrees', WHERE WHAT IT READS IS OF BULK AT MOST 1048576: true; the input reads as it did. -/
def fnValidDegreesUptoRow : OpenClaim := { program := "ytlgkooeflgmcaaa", sum := "b6253c6e0389363d29517f653901d65a78f0b705ab2c3879b522d5b52a14cf07", func := "loop.example/degreeswaps/laws.FnValidDegrees", spec := "fnValidDegrees", unfollowed := true, recurses := true, apart := false, narrowed := true }
def FnValidDegreesUptoSaid : Prop := fnValidDegreesUptoRow.holds Try.pinned (OpenSpec.upto fnValidDegreesSpec)

end Rows
end Go.Proofs.Ytlgkooeflgmcaaa
