/-
  DERIVED. GIVEN WITH THE SEED: THE CARDS: each row of YtlhpkapcehjolaaDoorRows.lean that lists a variable, with what it lists TIED to the program's text (the seventh form; the later family's looks); each row that meets fmt, with fmt's text TOLD by the authors' own Lean function (tested against real Go, not proved from fmt's source: count such statements apart). THE CARD IS WHAT COUNTS. Prove the row's statement (the work); the ties are given (YtlhpkapcehjolaaDoorTie.lean); close each card by the builder's one call (the guide's Derived/Test/ToyasCard.lean, 'card_holds'). Laid BY PROGRAM, IN A SANDBOX (cutbox-door.mjs). By AI agents, Wed Nov 11 2026. No macro, syntax, notation, axiom, sorry.
-/
import Derived.Test.YtlhpkapcehjolaaDoorRows
import GoSem.ClaimSeven
namespace Go.Proofs.YtlhpkapcehjolaaDoor
namespace Rows

/-- THE TIED CARD OF 'chancellaw2.NumEdges'. -/
def numEdgesCard : Claim7 := { stood := { row := numEdgesRow, standIns := [], harness := (true, "024c4fa1603744becbe3b8ab5f1ea8829ab28d04693ce96d9c18805f1ad3db3e"), looks := false }, kinds := [], alts := [], laidByText := true, laidKinds := [.data, .data, .data], laidTests := true, laidLooks := .later }
def NumEdgesCardSaid : Prop := Claim7.holds Tryd.pinned (.plain (OpenSpec.ofChange numEdgesSpec)) numEdgesCard

/-- THE TIED CARD OF 'chancellaw2.NumAsks'. -/
def numAsksCard : Claim7 := { stood := { row := numAsksRow, standIns := [], harness := (true, "024c4fa1603744becbe3b8ab5f1ea8829ab28d04693ce96d9c18805f1ad3db3e"), looks := false }, kinds := [], alts := [], laidByText := true, laidKinds := [.data, .data, .data], laidTests := true, laidLooks := .later }
def NumAsksCardSaid : Prop := Claim7.holds Tryd.pinned (.plain (OpenSpec.ofChange numAsksSpec)) numAsksCard

/-- THE TIED CARD OF 'chancellaw2.NumBack'. -/
def numBackCard : Claim7 := { stood := { row := numBackRow, standIns := [], harness := (true, "024c4fa1603744becbe3b8ab5f1ea8829ab28d04693ce96d9c18805f1ad3db3e"), looks := false }, kinds := [], alts := [], laidByText := true, laidKinds := [.data, .data, .data], laidTests := true, laidLooks := .later }
def NumBackCardSaid : Prop := Claim7.holds Tryd.pinned (.plain (OpenSpec.ofChange numBackSpec)) numBackCard

/-- THE TIED CARD OF 'chancellaw2.NumSigns'. -/
def numSignsCard : Claim7 := { stood := { row := numSignsRow, standIns := [], harness := (true, "024c4fa1603744becbe3b8ab5f1ea8829ab28d04693ce96d9c18805f1ad3db3e"), looks := false }, kinds := [], alts := [], laidByText := true, laidKinds := [.data, .data, .data], laidTests := true, laidLooks := .later }
def NumSignsCardSaid : Prop := Claim7.holds Tryd.pinned (.plain (OpenSpec.ofChange numSignsSpec)) numSignsCard

/-- THE TIED CARD OF 'chancellaw2.NumSmall'. -/
def numSmallCard : Claim7 := { stood := { row := numSmallRow, standIns := [], harness := (true, "024c4fa1603744becbe3b8ab5f1ea8829ab28d04693ce96d9c18805f1ad3db3e"), looks := false }, kinds := [], alts := [], laidByText := true, laidKinds := [.data, .data, .data], laidTests := true, laidLooks := .later }
def NumSmallCardSaid : Prop := Claim7.holds Tryd.pinned (.plain (OpenSpec.ofChange numSmallSpec)) numSmallCard

/-- THE TIED CARD OF 'chancellaw2.NumTexts'. -/
def numTextsCard : Claim7 := { stood := { row := numTextsRow, standIns := [], harness := (true, "024c4fa1603744becbe3b8ab5f1ea8829ab28d04693ce96d9c18805f1ad3db3e"), looks := false }, kinds := [], alts := [], laidByText := true, laidKinds := [.data, .data, .data], laidTests := true, laidLooks := .later }
def NumTextsCardSaid : Prop := Claim7.holds Tryd.pinned (.plain (OpenSpec.ofChange numTextsSpec)) numTextsCard

/-- THE SECOND FORM's CARD OF 'chancellaw2.NumEdges'. -/
def numEdgesUptoCard : Claim7 := { stood := { row := numEdgesUptoRow, standIns := [], harness := (true, "024c4fa1603744becbe3b8ab5f1ea8829ab28d04693ce96d9c18805f1ad3db3e"), looks := false }, kinds := [], alts := [], laidByText := true, laidKinds := [.data, .data, .data], laidTests := true, laidLooks := .later }
def NumEdgesUptoCardSaid : Prop := Claim7.holds Tryd.pinned (.plain (OpenSpec.upto numEdgesSpec)) numEdgesUptoCard

/-- THE SECOND FORM's CARD OF 'chancellaw2.NumAsks'. -/
def numAsksUptoCard : Claim7 := { stood := { row := numAsksUptoRow, standIns := [], harness := (true, "024c4fa1603744becbe3b8ab5f1ea8829ab28d04693ce96d9c18805f1ad3db3e"), looks := false }, kinds := [], alts := [], laidByText := true, laidKinds := [.data, .data, .data], laidTests := true, laidLooks := .later }
def NumAsksUptoCardSaid : Prop := Claim7.holds Tryd.pinned (.plain (OpenSpec.upto numAsksSpec)) numAsksUptoCard

/-- THE SECOND FORM's CARD OF 'chancellaw2.NumBack'. -/
def numBackUptoCard : Claim7 := { stood := { row := numBackUptoRow, standIns := [], harness := (true, "024c4fa1603744becbe3b8ab5f1ea8829ab28d04693ce96d9c18805f1ad3db3e"), looks := false }, kinds := [], alts := [], laidByText := true, laidKinds := [.data, .data, .data], laidTests := true, laidLooks := .later }
def NumBackUptoCardSaid : Prop := Claim7.holds Tryd.pinned (.plain (OpenSpec.upto numBackSpec)) numBackUptoCard

/-- THE SECOND FORM's CARD OF 'chancellaw2.NumSigns'. -/
def numSignsUptoCard : Claim7 := { stood := { row := numSignsUptoRow, standIns := [], harness := (true, "024c4fa1603744becbe3b8ab5f1ea8829ab28d04693ce96d9c18805f1ad3db3e"), looks := false }, kinds := [], alts := [], laidByText := true, laidKinds := [.data, .data, .data], laidTests := true, laidLooks := .later }
def NumSignsUptoCardSaid : Prop := Claim7.holds Tryd.pinned (.plain (OpenSpec.upto numSignsSpec)) numSignsUptoCard

/-- THE SECOND FORM's CARD OF 'chancellaw2.NumSmall'. -/
def numSmallUptoCard : Claim7 := { stood := { row := numSmallUptoRow, standIns := [], harness := (true, "024c4fa1603744becbe3b8ab5f1ea8829ab28d04693ce96d9c18805f1ad3db3e"), looks := false }, kinds := [], alts := [], laidByText := true, laidKinds := [.data, .data, .data], laidTests := true, laidLooks := .later }
def NumSmallUptoCardSaid : Prop := Claim7.holds Tryd.pinned (.plain (OpenSpec.upto numSmallSpec)) numSmallUptoCard

/-- THE SECOND FORM's CARD OF 'chancellaw2.NumTexts'. -/
def numTextsUptoCard : Claim7 := { stood := { row := numTextsUptoRow, standIns := [], harness := (true, "024c4fa1603744becbe3b8ab5f1ea8829ab28d04693ce96d9c18805f1ad3db3e"), looks := false }, kinds := [], alts := [], laidByText := true, laidKinds := [.data, .data, .data], laidTests := true, laidLooks := .later }
def NumTextsUptoCardSaid : Prop := Claim7.holds Tryd.pinned (.plain (OpenSpec.upto numTextsSpec)) numTextsUptoCard
end Rows
end Go.Proofs.YtlhpkapcehjolaaDoor
