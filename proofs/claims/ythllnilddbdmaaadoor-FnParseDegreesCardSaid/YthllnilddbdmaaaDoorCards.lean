/-
  DERIVED. GIVEN WITH THE SEED: THE CARDS: each row of YthllnilddbdmaaaDoorRows.lean that lists a variable, with what it lists TIED to the program's text (the seventh form; the later family's looks); each row that meets fmt, with fmt's text TOLD by the authors' own Lean function (tested against real Go, not proved from fmt's source: count such statements apart). THE CARD IS WHAT COUNTS. Prove the row's statement (the work); the ties are given (YthllnilddbdmaaaDoorTie.lean); close each card by the builder's one call (the guide's Derived/Test/ToyasCard.lean, 'card_holds'). Laid BY PROGRAM, IN A SANDBOX (cutbox-door.mjs). By AI agents, Wed Nov 11 2026. No macro, syntax, notation, axiom, sorry.
-/
import Derived.Test.YthllnilddbdmaaaDoorRows
import GoSem.ClaimSeven
namespace Go.Proofs.YthllnilddbdmaaaDoor
namespace Rows

/-- THE TIED CARD OF 'laws.FnExactGraphText'. -/
def fnExactGraphTextCard : Claim7 := { stood := { row := fnExactGraphTextRow, standIns := [], harness := (true, "5826a6291f7eaeb2daa78c693b7dc249c8f992998053637fc8ac1234584c86d6"), looks := false }, kinds := [], alts := [], laidByText := true, laidKinds := [.data, .data, .data], laidTests := true, laidLooks := .later }
def FnExactGraphTextCardSaid : Prop := Claim7.holds Tryd.pinned (.plain (OpenSpec.ofChange fnExactGraphTextSpec)) fnExactGraphTextCard

/-- THE TIED CARD OF 'laws.FnExactDegreesText'. -/
def fnExactDegreesTextCard : Claim7 := { stood := { row := fnExactDegreesTextRow, standIns := [], harness := (true, "5826a6291f7eaeb2daa78c693b7dc249c8f992998053637fc8ac1234584c86d6"), looks := false }, kinds := [], alts := [], laidByText := true, laidKinds := [.data, .data, .data], laidTests := true, laidLooks := .later }
def FnExactDegreesTextCardSaid : Prop := Claim7.holds Tryd.pinned (.plain (OpenSpec.ofChange fnExactDegreesTextSpec)) fnExactDegreesTextCard

/-- THE TIED CARD OF 'laws.FnDegreesText'. -/
def fnDegreesTextCard : Claim7 := { stood := { row := fnDegreesTextRow, standIns := [], harness := (true, "5826a6291f7eaeb2daa78c693b7dc249c8f992998053637fc8ac1234584c86d6"), looks := false }, kinds := [], alts := [], laidByText := true, laidKinds := [.data, .data, .data], laidTests := true, laidLooks := .later }
def FnDegreesTextCardSaid : Prop := Claim7.holds Tryd.pinned (.plain (OpenSpec.ofChange fnDegreesTextSpec)) fnDegreesTextCard

/-- THE TIED CARD OF 'laws.FnParseDegrees'. -/
def fnParseDegreesCard : Claim7 := { stood := { row := fnParseDegreesRow, standIns := [], harness := (true, "5826a6291f7eaeb2daa78c693b7dc249c8f992998053637fc8ac1234584c86d6"), looks := false }, kinds := [], alts := [], laidByText := true, laidKinds := [.data, .data, .data], laidTests := true, laidLooks := .later }
def FnParseDegreesCardSaid : Prop := Claim7.holds Tryd.pinned (.plain (OpenSpec.ofChange fnParseDegreesSpec)) fnParseDegreesCard

/-- THE SECOND FORM's CARD OF 'laws.FnExactGraphText'. -/
def fnExactGraphTextUptoCard : Claim7 := { stood := { row := fnExactGraphTextUptoRow, standIns := [], harness := (true, "5826a6291f7eaeb2daa78c693b7dc249c8f992998053637fc8ac1234584c86d6"), looks := false }, kinds := [], alts := [], laidByText := true, laidKinds := [.data, .data, .data], laidTests := true, laidLooks := .later }
def FnExactGraphTextUptoCardSaid : Prop := Claim7.holds Tryd.pinned (.plain (OpenSpec.upto fnExactGraphTextSpec)) fnExactGraphTextUptoCard

/-- THE SECOND FORM's CARD OF 'laws.FnExactDegreesText'. -/
def fnExactDegreesTextUptoCard : Claim7 := { stood := { row := fnExactDegreesTextUptoRow, standIns := [], harness := (true, "5826a6291f7eaeb2daa78c693b7dc249c8f992998053637fc8ac1234584c86d6"), looks := false }, kinds := [], alts := [], laidByText := true, laidKinds := [.data, .data, .data], laidTests := true, laidLooks := .later }
def FnExactDegreesTextUptoCardSaid : Prop := Claim7.holds Tryd.pinned (.plain (OpenSpec.upto fnExactDegreesTextSpec)) fnExactDegreesTextUptoCard

/-- THE SECOND FORM's CARD OF 'laws.FnDegreesText'. -/
def fnDegreesTextUptoCard : Claim7 := { stood := { row := fnDegreesTextUptoRow, standIns := [], harness := (true, "5826a6291f7eaeb2daa78c693b7dc249c8f992998053637fc8ac1234584c86d6"), looks := false }, kinds := [], alts := [], laidByText := true, laidKinds := [.data, .data, .data], laidTests := true, laidLooks := .later }
def FnDegreesTextUptoCardSaid : Prop := Claim7.holds Tryd.pinned (.plain (OpenSpec.upto fnDegreesTextSpec)) fnDegreesTextUptoCard

/-- THE SECOND FORM's CARD OF 'laws.FnParseDegrees'. -/
def fnParseDegreesUptoCard : Claim7 := { stood := { row := fnParseDegreesUptoRow, standIns := [], harness := (true, "5826a6291f7eaeb2daa78c693b7dc249c8f992998053637fc8ac1234584c86d6"), looks := false }, kinds := [], alts := [], laidByText := true, laidKinds := [.data, .data, .data], laidTests := true, laidLooks := .later }
def FnParseDegreesUptoCardSaid : Prop := Claim7.holds Tryd.pinned (.plain (OpenSpec.upto fnParseDegreesSpec)) fnParseDegreesUptoCard
end Rows
end Go.Proofs.YthllnilddbdmaaaDoor
