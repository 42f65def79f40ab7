/-
  DERIVED. GIVEN WITH THE SEED: THE CARDS: each row of YtaiegjgbdfmfpaaDoorRows.lean that lists a variable, with what it lists TIED to the program's text (the seventh form; the later family's looks); each row that meets fmt, with fmt's text TOLD by the authors' own Lean function (tested against real Go, not proved from fmt's source: count such statements apart). THE CARD IS WHAT COUNTS. Prove the row's statement (the work); the ties are given (YtaiegjgbdfmfpaaDoorTie.lean); close each card by the builder's one call (the guide's Derived/Test/ToyasCard.lean, 'card_holds'). Laid BY PROGRAM, IN A SANDBOX (cutbox-door.mjs). By AI agents, Wed Nov 11 2026. No macro, syntax, notation, axiom, sorry.
-/
import Derived.Test.YtaiegjgbdfmfpaaDoorRows
import GoSem.ClaimSeven
namespace Go.Proofs.YtaiegjgbdfmfpaaDoor
namespace Rows

/-- THE TIED CARD OF 'chancellaw4.LexBlanks'. -/
def lexBlanksCard : Claim7 := { stood := { row := lexBlanksRow, standIns := [], harness := (true, "55adedc468568944bb8fff0dbd34b93e1a217bf9f4db09beb2b16c30972445b5"), looks := false }, kinds := [], alts := [], laidByText := true, laidKinds := [.data, .listed, .data, .pinned], laidTests := true, laidLooks := .later }
def LexBlanksCardSaid : Prop := Claim7.holds Tryd.pinned (.plain (OpenSpec.ofChange lexBlanksSpec)) lexBlanksCard

/-- THE TIED CARD OF 'chancellaw4.LexBounds'. -/
def lexBoundsCard : Claim7 := { stood := { row := lexBoundsRow, standIns := [], harness := (true, "55adedc468568944bb8fff0dbd34b93e1a217bf9f4db09beb2b16c30972445b5"), looks := false }, kinds := [], alts := [], laidByText := true, laidKinds := [.data, .listed, .data, .pinned], laidTests := true, laidLooks := .later }
def LexBoundsCardSaid : Prop := Claim7.holds Tryd.pinned (.plain (OpenSpec.ofChange lexBoundsSpec)) lexBoundsCard

/-- THE TIED CARD OF 'chancellaw4.LexNumbers'. -/
def lexNumbersCard : Claim7 := { stood := { row := lexNumbersRow, standIns := [], harness := (true, "55adedc468568944bb8fff0dbd34b93e1a217bf9f4db09beb2b16c30972445b5"), looks := false }, kinds := [], alts := [], laidByText := true, laidKinds := [.data, .listed, .data, .pinned], laidTests := true, laidLooks := .later }
def LexNumbersCardSaid : Prop := Claim7.holds Tryd.pinned (.plain (OpenSpec.ofChange lexNumbersSpec)) lexNumbersCard

/-- THE TIED CARD OF 'chancellaw4.LexStrings'. -/
def lexStringsCard : Claim7 := { stood := { row := lexStringsRow, standIns := [], harness := (true, "55adedc468568944bb8fff0dbd34b93e1a217bf9f4db09beb2b16c30972445b5"), looks := false }, kinds := [], alts := [], laidByText := true, laidKinds := [.data, .listed, .data, .pinned], laidTests := true, laidLooks := .later }
def LexStringsCardSaid : Prop := Claim7.holds Tryd.pinned (.plain (OpenSpec.ofChange lexStringsSpec)) lexStringsCard

/-- THE TIED CARD OF 'chancellaw4.LexNames'. -/
def lexNamesCard : Claim7 := { stood := { row := lexNamesRow, standIns := [], harness := (true, "55adedc468568944bb8fff0dbd34b93e1a217bf9f4db09beb2b16c30972445b5"), looks := false }, kinds := [], alts := [], laidByText := true, laidKinds := [.data, .listed, .data, .pinned], laidTests := true, laidLooks := .later }
def LexNamesCardSaid : Prop := Claim7.holds Tryd.pinned (.plain (OpenSpec.ofChange lexNamesSpec)) lexNamesCard

/-- THE SECOND FORM's CARD OF 'chancellaw4.LexBlanks'. -/
def lexBlanksUptoCard : Claim7 := { stood := { row := lexBlanksUptoRow, standIns := [], harness := (true, "55adedc468568944bb8fff0dbd34b93e1a217bf9f4db09beb2b16c30972445b5"), looks := false }, kinds := [], alts := [], laidByText := true, laidKinds := [.data, .listed, .data, .pinned], laidTests := true, laidLooks := .later }
def LexBlanksUptoCardSaid : Prop := Claim7.holds Tryd.pinned (.plain (OpenSpec.upto lexBlanksSpec)) lexBlanksUptoCard

/-- THE SECOND FORM's CARD OF 'chancellaw4.LexBounds'. -/
def lexBoundsUptoCard : Claim7 := { stood := { row := lexBoundsUptoRow, standIns := [], harness := (true, "55adedc468568944bb8fff0dbd34b93e1a217bf9f4db09beb2b16c30972445b5"), looks := false }, kinds := [], alts := [], laidByText := true, laidKinds := [.data, .listed, .data, .pinned], laidTests := true, laidLooks := .later }
def LexBoundsUptoCardSaid : Prop := Claim7.holds Tryd.pinned (.plain (OpenSpec.upto lexBoundsSpec)) lexBoundsUptoCard

/-- THE SECOND FORM's CARD OF 'chancellaw4.LexNumbers'. -/
def lexNumbersUptoCard : Claim7 := { stood := { row := lexNumbersUptoRow, standIns := [], harness := (true, "55adedc468568944bb8fff0dbd34b93e1a217bf9f4db09beb2b16c30972445b5"), looks := false }, kinds := [], alts := [], laidByText := true, laidKinds := [.data, .listed, .data, .pinned], laidTests := true, laidLooks := .later }
def LexNumbersUptoCardSaid : Prop := Claim7.holds Tryd.pinned (.plain (OpenSpec.upto lexNumbersSpec)) lexNumbersUptoCard

/-- THE SECOND FORM's CARD OF 'chancellaw4.LexStrings'. -/
def lexStringsUptoCard : Claim7 := { stood := { row := lexStringsUptoRow, standIns := [], harness := (true, "55adedc468568944bb8fff0dbd34b93e1a217bf9f4db09beb2b16c30972445b5"), looks := false }, kinds := [], alts := [], laidByText := true, laidKinds := [.data, .listed, .data, .pinned], laidTests := true, laidLooks := .later }
def LexStringsUptoCardSaid : Prop := Claim7.holds Tryd.pinned (.plain (OpenSpec.upto lexStringsSpec)) lexStringsUptoCard

/-- THE SECOND FORM's CARD OF 'chancellaw4.LexNames'. -/
def lexNamesUptoCard : Claim7 := { stood := { row := lexNamesUptoRow, standIns := [], harness := (true, "55adedc468568944bb8fff0dbd34b93e1a217bf9f4db09beb2b16c30972445b5"), looks := false }, kinds := [], alts := [], laidByText := true, laidKinds := [.data, .listed, .data, .pinned], laidTests := true, laidLooks := .later }
def LexNamesUptoCardSaid : Prop := Claim7.holds Tryd.pinned (.plain (OpenSpec.upto lexNamesSpec)) lexNamesUptoCard
end Rows
end Go.Proofs.YtaiegjgbdfmfpaaDoor
