/-
  No cell of these rows narrows 'for every input' (looked for: loops, veiled, ifaces, maps, wideKeys, modest, calm, conditions, laid).
  DERIVED. THE GIVEN ROWS OF THIS SEAT. 6 by the template 'for every input the law returns true; each argument reads behind the call as it read before'; 0 by the template 'total and deterministic' (their statements: YthbfgkeoojghoaaTotals.lean).
  GIVEN WITH THE SEED: the statements are not yours to turn. If you find one false, say at which input.
  Laid BY PROGRAM, IN A SANDBOX (cutbox-rows.mjs): the forced cells as the released guide's own fill.sh prints them over the translation fa4dd1a2dcd6283e… (all of the seat's roots in one cut). By AI agents, Wed Nov 11 2026. No macro, syntax, notation, axiom, sorry.
-/
import Derived.Test.YthbfgkeoojghoaaChecked
import GoSem.Claim
import GoSem.ClaimJoined
import GoSem.ClaimMapViews
import Derived.JoinedTies
import Derived.KernelRfl
namespace Go.Proofs.Ythbfgkeoojghoaa
/- THE CELL 'sum', in the pinned program and in every row, IS THE sha256 OF THE DUMP (.gsa) THAT YthbfgkeoojghoaaProg.lean LOADS. Nothing in Lean hashes anything: it is a label: what it is worth is what the hold of that sum in a sandbox is worth. -/
noncomputable def Try.pinned : Pinned := { name := "ythbfgkeoojghoaa", sum := "fa4dd1a2dcd6283e3479a464b11bdf45efdb790ac0ad1f97da22ffb394366bde", checked := Try.checked }
namespace Rows
def none {H : Type} : Left H := { results := [], args := [] }

/-- 'laws.FnBarrierOf': WHATEVER THE INPUT: true; the input reads as it did. -/
def fnBarrierOfSpec : ChangeSpec := { name := "fnBarrierOf", fn := fun _ => fun
  | [d] => { results := [.lit (.bool true)], args := [d] }
  | _ => none }
def fnBarrierOfRow : OpenClaim := { program := "ythbfgkeoojghoaa", sum := "fa4dd1a2dcd6283e3479a464b11bdf45efdb790ac0ad1f97da22ffb394366bde", func := "loop.example/degreeswaps/laws.FnBarrierOf", spec := "fnBarrierOf", unfollowed := true, recurses := true, plainKeys := false, apart := false }
def FnBarrierOfSaid : Prop := fnBarrierOfRow.holds Try.pinned (OpenSpec.ofChange fnBarrierOfSpec)

/-- ITS FALSE NEIGHBOUR: 'it returns false'. Refute it at one input. -/
def fnBarrierOfWrong : ChangeSpec := { name := "fnBarrierOf", fn := fun _ => fun
  | [d] => { results := [.lit (.bool false)], args := [d] }
  | _ => none }
def FnBarrierOfWrongFalsely : Prop := fnBarrierOfRow.holds Try.pinned (OpenSpec.ofChange fnBarrierOfWrong)

/-- 'laws.FnExactBarrierOf': WHATEVER THE INPUT: true; the input reads as it did. -/
def fnExactBarrierOfSpec : ChangeSpec := { name := "fnExactBarrierOf", fn := fun _ => fun
  | [d] => { results := [.lit (.bool true)], args := [d] }
  | _ => none }
def fnExactBarrierOfRow : OpenClaim := { program := "ythbfgkeoojghoaa", sum := "fa4dd1a2dcd6283e3479a464b11bdf45efdb790ac0ad1f97da22ffb394366bde", func := "loop.example/degreeswaps/laws.FnExactBarrierOf", spec := "fnExactBarrierOf", unfollowed := true, recurses := true, plainKeys := false, apart := false }
def FnExactBarrierOfSaid : Prop := fnExactBarrierOfRow.holds Try.pinned (OpenSpec.ofChange fnExactBarrierOfSpec)

/-- ITS FALSE NEIGHBOUR: 'it returns false'. Refute it at one input. -/
def fnExactBarrierOfWrong : ChangeSpec := { name := "fnExactBarrierOf", fn := fun _ => fun
  | [d] => { results := [.lit (.bool false)], args := [d] }
  | _ => none }
def FnExactBarrierOfWrongFalsely : Prop := fnExactBarrierOfRow.holds Try.pinned (OpenSpec.ofChange fnExactBarrierOfWrong)

/-- 'laws.FnJointOf': WHATEVER THE INPUT: true; the input reads as it did. -/
def fnJointOfSpec : ChangeSpec := { name := "fnJointOf", fn := fun _ => fun
  | [d] => { results := [.lit (.bool true)], args := [d] }
  | _ => none }
def fnJointOfRow : OpenClaim := { program := "ythbfgkeoojghoaa", sum := "fa4dd1a2dcd6283e3479a464b11bdf45efdb790ac0ad1f97da22ffb394366bde", func := "loop.example/degreeswaps/laws.FnJointOf", spec := "fnJointOf", unfollowed := true, recurses := true, plainKeys := false, apart := false }
def FnJointOfSaid : Prop := fnJointOfRow.holds Try.pinned (OpenSpec.ofChange fnJointOfSpec)

/-- ITS FALSE NEIGHBOUR: 'it returns false'. Refute it at one input. -/
def fnJointOfWrong : ChangeSpec := { name := "fnJointOf", fn := fun _ => fun
  | [d] => { results := [.lit (.bool false)], args := [d] }
  | _ => none }
def FnJointOfWrongFalsely : Prop := fnJointOfRow.holds Try.pinned (OpenSpec.ofChange fnJointOfWrong)

/-- 'laws.FnAllGraphic': WHATEVER THE INPUT: true; the input reads as it did. -/
def fnAllGraphicSpec : ChangeSpec := { name := "fnAllGraphic", fn := fun _ => fun
  | [d] => { results := [.lit (.bool true)], args := [d] }
  | _ => none }
def fnAllGraphicRow : OpenClaim := { program := "ythbfgkeoojghoaa", sum := "fa4dd1a2dcd6283e3479a464b11bdf45efdb790ac0ad1f97da22ffb394366bde", func := "loop.example/degreeswaps/laws.FnAllGraphic", spec := "fnAllGraphic", unfollowed := true, recurses := true, plainKeys := false, apart := false }
def FnAllGraphicSaid : Prop := fnAllGraphicRow.holds Try.pinned (OpenSpec.ofChange fnAllGraphicSpec)

/-- ITS FALSE NEIGHBOUR: 'it returns false'. Refute it at one input. -/
def fnAllGraphicWrong : ChangeSpec := { name := "fnAllGraphic", fn := fun _ => fun
  | [d] => { results := [.lit (.bool false)], args := [d] }
  | _ => none }
def FnAllGraphicWrongFalsely : Prop := fnAllGraphicRow.holds Try.pinned (OpenSpec.ofChange fnAllGraphicWrong)

/-- 'laws.FnExactAllGraphic': WHATEVER THE INPUT: true; the input reads as it did. -/
def fnExactAllGraphicSpec : ChangeSpec := { name := "fnExactAllGraphic", fn := fun _ => fun
  | [d] => { results := [.lit (.bool true)], args := [d] }
  | _ => none }
def fnExactAllGraphicRow : OpenClaim := { program := "ythbfgkeoojghoaa", sum := "fa4dd1a2dcd6283e3479a464b11bdf45efdb790ac0ad1f97da22ffb394366bde", func := "loop.example/degreeswaps/laws.FnExactAllGraphic", spec := "fnExactAllGraphic", unfollowed := true, recurses := true, plainKeys := false, apart := false }
def FnExactAllGraphicSaid : Prop := fnExactAllGraphicRow.holds Try.pinned (OpenSpec.ofChange fnExactAllGraphicSpec)

/-- ITS FALSE NEIGHBOUR: 'it returns false'. Refute it at one input. -/
def fnExactAllGraphicWrong : ChangeSpec := { name := "fnExactAllGraphic", fn := fun _ => fun
  | [d] => { results := [.lit (.bool false)], args := [d] }
  | _ => none }
def FnExactAllGraphicWrongFalsely : Prop := fnExactAllGraphicRow.holds Try.pinned (OpenSpec.ofChange fnExactAllGraphicWrong)

/-- 'laws.FnExactIsStrong': WHATEVER THE INPUT: true; the input reads as it did. -/
def fnExactIsStrongSpec : ChangeSpec := { name := "fnExactIsStrong", fn := fun _ => fun
  | [d] => { results := [.lit (.bool true)], args := [d] }
  | _ => none }
def fnExactIsStrongRow : OpenClaim := { program := "ythbfgkeoojghoaa", sum := "fa4dd1a2dcd6283e3479a464b11bdf45efdb790ac0ad1f97da22ffb394366bde", func := "loop.example/degreeswaps/laws.FnExactIsStrong", spec := "fnExactIsStrong", unfollowed := true, recurses := true, plainKeys := false, apart := false }
def FnExactIsStrongSaid : Prop := fnExactIsStrongRow.holds Try.pinned (OpenSpec.ofChange fnExactIsStrongSpec)

/-- ITS FALSE NEIGHBOUR: 'it returns false'. Refute it at one input. -/
def fnExactIsStrongWrong : ChangeSpec := { name := "fnExactIsStrong", fn := fun _ => fun
  | [d] => { results := [.lit (.bool false)], args := [d] }
  | _ => none }
def FnExactIsStrongWrongFalsely : Prop := fnExactIsStrongRow.holds Try.pinned (OpenSpec.ofChange fnExactIsStrongWrong)

/- THE SECOND FORM. 'bulk': how many values and letters a reading holds, each counted each time it is reached (what is shared counts as often as it is met; a slice's spare places count too). A statement '..UptoSaid' is the law's where the arguments, and the package variables that the reading takes, are together of bulk at most 1048576: NARROWER than '..Said'. Prove '..Said' where nothing that the law and all that it calls make is longer than what came in: it says more and counts as full. Else prove '..UptoSaid'. A law counts once. -/
mutual
def uptoBulk {H : Type} : DataW H → Nat
  | .lit (.string bytes) => bytes.length + 1
  | .lit _ => 1
  | .nil => 1
  | .ptr d => uptoBulk d + 1
  | .slice elems spare => uptoBulkAll elems + uptoBulkAll spare + 1
  | .agg parts => uptoBulkAll parts + 1
  | .iface _ d => uptoBulk d + 1
  | .map entries => uptoBulkEntries entries + 1
  | .held _ => 1
def uptoBulkAll {H : Type} : List (DataW H) → Nat
  | [] => 0
  | d :: r => uptoBulk d + uptoBulkAll r
def uptoBulkEntries {H : Type} : List (Lit × DataW H) → Nat
  | [] => 0
  | x :: r => uptoBulkEntry x + uptoBulkEntries r
def uptoBulkEntry {H : Type} : Lit × DataW H → Nat
  | (.string bytes, d) => bytes.length + uptoBulk d + 1
  | (_, d) => uptoBulk d + 1
 end
def uptoSmall : (H : Type) → List (DataW H) → Bool := fun _ ds => decide (uptoBulkAll ds ≤ 1048576)
def OpenSpec.upto (s : _root_.Go.ChangeSpec) : _root_.Go.OpenSpec := { _root_.Go.OpenSpec.ofChange s with cond := some uptoSmall }

/-- 'laws.FnBarrierOf', WHERE WHAT IT READS IS OF BULK AT MOST 1048576: true; the input reads as it did. -/
def fnBarrierOfUptoRow : OpenClaim := { program := "ythbfgkeoojghoaa", sum := "fa4dd1a2dcd6283e3479a464b11bdf45efdb790ac0ad1f97da22ffb394366bde", func := "loop.example/degreeswaps/laws.FnBarrierOf", spec := "fnBarrierOf", unfollowed := true, recurses := true, plainKeys := false, apart := false, narrowed := true }
def FnBarrierOfUptoSaid : Prop := fnBarrierOfUptoRow.holds Try.pinned (OpenSpec.upto fnBarrierOfSpec)

/-- 'laws.FnExactBarrierOf', WHERE WHAT IT READS IS OF BULK AT MOST 1048576: true; the input reads as it did. -/
def fnExactBarrierOfUptoRow : OpenClaim := { program := "ythbfgkeoojghoaa", sum := "fa4dd1a2dcd6283e3479a464b11bdf45efdb790ac0ad1f97da22ffb394366bde", func := "loop.example/degreeswaps/laws.FnExactBarrierOf", spec := "fnExactBarrierOf", unfollowed := true, recurses := true, plainKeys := false, apart := false, narrowed := true }
def FnExactBarrierOfUptoSaid : Prop := fnExactBarrierOfUptoRow.holds Try.pinned (OpenSpec.upto fnExactBarrierOfSpec)

/-- 'laws.FnJointOf', WHERE WHAT IT READS IS OF BULK AT MOST 1048576: true; the input reads as it did. -/
def fnJointOfUptoRow : OpenClaim := { program := "ythbfgkeoojghoaa", sum := "fa4dd1a2dcd6283e3479a464b11bdf45efdb790ac0ad1f97da22ffb394366bde", func := "loop.example/degreeswaps/laws.FnJointOf", spec := "fnJointOf", unfollowed := true, recurses := true, plainKeys := false, apart := false, narrowed := true }
def FnJointOfUptoSaid : Prop := fnJointOfUptoRow.holds Try.pinned (OpenSpec.upto fnJointOfSpec)

/-- 'laws.FnAllGraphic', WHERE WHAT IT READS IS OF BULK AT MOST 1048576: true; the input reads as it did. -/
def fnAllGraphicUptoRow : OpenClaim := { program := "ythbfgkeoojghoaa", sum := "fa4dd1a2dcd6283e3479a464b11bdf45efdb790ac0ad1f97da22ffb394366bde", func := "loop.example/degreeswaps/laws.FnAllGraphic", spec := "fnAllGraphic", unfollowed := true, recurses := true, plainKeys := false, apart := false, narrowed := true }
def FnAllGraphicUptoSaid : Prop := fnAllGraphicUptoRow.holds Try.pinned (OpenSpec.upto fnAllGraphicSpec)

/-- 'laws.FnExactAllGraphic', WHERE WHAT IT READS IS OF BULK AT MOST 1048576: true; the input reads as it did. -/
def fnExactAllGraphicUptoRow : OpenClaim := { program := "ythbfgkeoojghoaa", sum := "fa4dd1a2dcd6283e3479a464b11bdf45efdb790ac0ad1f97da22ffb394366bde", func := "loop.example/degreeswaps/laws.FnExactAllGraphic", spec := "fnExactAllGraphic", unfollowed := true, recurses := true, plainKeys := false, apart := false, narrowed := true }
def FnExactAllGraphicUptoSaid : Prop := fnExactAllGraphicUptoRow.holds Try.pinned (OpenSpec.upto fnExactAllGraphicSpec)

/-- 'laws.FnExactIsStrong', WHERE WHAT IT READS IS OF BULK AT MOST 1048576: true; the input reads as it did. -/
def fnExactIsStrongUptoRow : OpenClaim := { program := "ythbfgkeoojghoaa", sum := "fa4dd1a2dcd6283e3479a464b11bdf45efdb790ac0ad1f97da22ffb394366bde", func := "loop.example/degreeswaps/laws.FnExactIsStrong", spec := "fnExactIsStrong", unfollowed := true, recurses := true, plainKeys := false, apart := false, narrowed := true }
def FnExactIsStrongUptoSaid : Prop := fnExactIsStrongUptoRow.holds Try.pinned (OpenSpec.upto fnExactIsStrongSpec)

end Rows
end Go.Proofs.Ythbfgkeoojghoaa
