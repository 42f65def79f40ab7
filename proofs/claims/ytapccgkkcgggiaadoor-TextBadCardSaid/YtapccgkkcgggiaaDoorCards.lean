/-
  DERIVED. GIVEN WITH THE SEED: THE CARDS: each row of YtapccgkkcgggiaaDoorRows.lean that lists a variable, with what it lists TIED to the program's text (the seventh form; the later family's looks); each row that meets fmt, with fmt's text TOLD by the authors' own Lean function (tested against real Go, not proved from fmt's source: count such statements apart). THE CARD IS WHAT COUNTS. Prove the row's statement (the work); the ties are given (YtapccgkkcgggiaaDoorTie.lean); close each card by the builder's one call (the guide's Derived/Test/ToyasCard.lean, 'card_holds'). Laid BY PROGRAM, IN A SANDBOX (cutbox-door.mjs). By AI agents, Wed Nov 11 2026. No macro, syntax, notation, axiom, sorry.
-/
import Derived.Test.YtapccgkkcgggiaaDoorRows
import GoSem.ClaimSeven
namespace Go.Proofs.YtapccgkkcgggiaaDoor
namespace Rows

/-- THE TIED CARD OF 'chancellaw1.TextLike'. -/
def textLikeCard : Claim7 := { stood := { row := textLikeRow, standIns := [], harness := (true, "4309287540472c8cc478faa8182f997a6499378370ee7b04c0e710cea50d2200"), looks := false }, kinds := [], alts := [], laidByText := true, laidKinds := [.data, .data, .data], laidTests := true, laidLooks := .later }
def TextLikeCardSaid : Prop := Claim7.holds Tryd.pinned (.plain (OpenSpec.ofChange textLikeSpec)) textLikeCard

/-- THE TIED CARD OF 'chancellaw1.TextStars'. -/
def textStarsCard : Claim7 := { stood := { row := textStarsRow, standIns := [], harness := (true, "4309287540472c8cc478faa8182f997a6499378370ee7b04c0e710cea50d2200"), looks := false }, kinds := [], alts := [], laidByText := true, laidKinds := [.data, .data, .data], laidTests := true, laidLooks := .later }
def TextStarsCardSaid : Prop := Claim7.holds Tryd.pinned (.plain (OpenSpec.ofChange textStarsSpec)) textStarsCard

/-- THE TIED CARD OF 'chancellaw1.TextLonely'. -/
def textLonelyCard : Claim7 := { stood := { row := textLonelyRow, standIns := [], harness := (true, "4309287540472c8cc478faa8182f997a6499378370ee7b04c0e710cea50d2200"), looks := false }, kinds := [], alts := [], laidByText := true, laidKinds := [.data, .data, .data], laidTests := true, laidLooks := .later }
def TextLonelyCardSaid : Prop := Claim7.holds Tryd.pinned (.plain (OpenSpec.ofChange textLonelySpec)) textLonelyCard

/-- THE TIED CARD OF 'chancellaw1.TextJoins'. -/
def textJoinsCard : Claim7 := { stood := { row := textJoinsRow, standIns := [], harness := (true, "4309287540472c8cc478faa8182f997a6499378370ee7b04c0e710cea50d2200"), looks := false }, kinds := [], alts := [], laidByText := true, laidKinds := [.data, .data, .data, .data, .pinned], laidTests := true, laidLooks := .later }
def TextJoinsCardSaid : Prop := Claim7.holds Tryd.pinned (.plain (OpenSpec.ofChange textJoinsSpec)) textJoinsCard

/-- THE TIED CARD OF 'chancellaw1.TextRunes'. -/
def textRunesCard : Claim7 := { stood := { row := textRunesRow, standIns := [], harness := (true, "4309287540472c8cc478faa8182f997a6499378370ee7b04c0e710cea50d2200"), looks := false }, kinds := [], alts := [], laidByText := true, laidKinds := [.data, .data, .data, .data, .pinned], laidTests := true, laidLooks := .later }
def TextRunesCardSaid : Prop := Claim7.holds Tryd.pinned (.plain (OpenSpec.ofChange textRunesSpec)) textRunesCard

/-- THE TIED CARD OF 'chancellaw1.TextSize'. -/
def textSizeCard : Claim7 := { stood := { row := textSizeRow, standIns := [], harness := (true, "4309287540472c8cc478faa8182f997a6499378370ee7b04c0e710cea50d2200"), looks := false }, kinds := [], alts := [], laidByText := true, laidKinds := [.data, .data, .data, .data, .pinned], laidTests := true, laidLooks := .later }
def TextSizeCardSaid : Prop := Claim7.holds Tryd.pinned (.plain (OpenSpec.ofChange textSizeSpec)) textSizeCard

/-- THE TIED CARD OF 'chancellaw1.TextQuotes'. -/
def textQuotesCard : Claim7 := { stood := { row := textQuotesRow, standIns := [], harness := (true, "4309287540472c8cc478faa8182f997a6499378370ee7b04c0e710cea50d2200"), looks := false }, kinds := [], alts := [], laidByText := true, laidKinds := [.data, .data, .data, .data, .pinned], laidTests := true, laidLooks := .later }
def TextQuotesCardSaid : Prop := Claim7.holds Tryd.pinned (.plain (OpenSpec.ofChange textQuotesSpec)) textQuotesCard

/-- THE TIED CARD OF 'chancellaw1.TextReads'. -/
def textReadsCard : Claim7 := { stood := { row := textReadsRow, standIns := [], harness := (true, "4309287540472c8cc478faa8182f997a6499378370ee7b04c0e710cea50d2200"), looks := false }, kinds := [], alts := [], laidByText := true, laidKinds := [.data, .data, .data, .data, .pinned], laidTests := true, laidLooks := .later }
def TextReadsCardSaid : Prop := Claim7.holds Tryd.pinned (.plain (OpenSpec.ofChange textReadsSpec)) textReadsCard

/-- THE TIED CARD OF 'chancellaw1.TextBad'. -/
def textBadCard : Claim7 := { stood := { row := textBadRow, standIns := [], harness := (true, "4309287540472c8cc478faa8182f997a6499378370ee7b04c0e710cea50d2200"), looks := false }, kinds := [], alts := [], laidByText := true, laidKinds := [.data, .data, .data, .data, .pinned], laidTests := true, laidLooks := .later }
def TextBadCardSaid : Prop := Claim7.holds Tryd.pinned (.plain (OpenSpec.ofChange textBadSpec)) textBadCard

/-- THE SECOND FORM's CARD OF 'chancellaw1.TextLike'. -/
def textLikeUptoCard : Claim7 := { stood := { row := textLikeUptoRow, standIns := [], harness := (true, "4309287540472c8cc478faa8182f997a6499378370ee7b04c0e710cea50d2200"), looks := false }, kinds := [], alts := [], laidByText := true, laidKinds := [.data, .data, .data], laidTests := true, laidLooks := .later }
def TextLikeUptoCardSaid : Prop := Claim7.holds Tryd.pinned (.plain (OpenSpec.upto textLikeSpec)) textLikeUptoCard

/-- THE SECOND FORM's CARD OF 'chancellaw1.TextStars'. -/
def textStarsUptoCard : Claim7 := { stood := { row := textStarsUptoRow, standIns := [], harness := (true, "4309287540472c8cc478faa8182f997a6499378370ee7b04c0e710cea50d2200"), looks := false }, kinds := [], alts := [], laidByText := true, laidKinds := [.data, .data, .data], laidTests := true, laidLooks := .later }
def TextStarsUptoCardSaid : Prop := Claim7.holds Tryd.pinned (.plain (OpenSpec.upto textStarsSpec)) textStarsUptoCard

/-- THE SECOND FORM's CARD OF 'chancellaw1.TextLonely'. -/
def textLonelyUptoCard : Claim7 := { stood := { row := textLonelyUptoRow, standIns := [], harness := (true, "4309287540472c8cc478faa8182f997a6499378370ee7b04c0e710cea50d2200"), looks := false }, kinds := [], alts := [], laidByText := true, laidKinds := [.data, .data, .data], laidTests := true, laidLooks := .later }
def TextLonelyUptoCardSaid : Prop := Claim7.holds Tryd.pinned (.plain (OpenSpec.upto textLonelySpec)) textLonelyUptoCard

/-- THE SECOND FORM's CARD OF 'chancellaw1.TextJoins'. -/
def textJoinsUptoCard : Claim7 := { stood := { row := textJoinsUptoRow, standIns := [], harness := (true, "4309287540472c8cc478faa8182f997a6499378370ee7b04c0e710cea50d2200"), looks := false }, kinds := [], alts := [], laidByText := true, laidKinds := [.data, .data, .data, .data, .pinned], laidTests := true, laidLooks := .later }
def TextJoinsUptoCardSaid : Prop := Claim7.holds Tryd.pinned (.plain (OpenSpec.upto textJoinsSpec)) textJoinsUptoCard

/-- THE SECOND FORM's CARD OF 'chancellaw1.TextRunes'. -/
def textRunesUptoCard : Claim7 := { stood := { row := textRunesUptoRow, standIns := [], harness := (true, "4309287540472c8cc478faa8182f997a6499378370ee7b04c0e710cea50d2200"), looks := false }, kinds := [], alts := [], laidByText := true, laidKinds := [.data, .data, .data, .data, .pinned], laidTests := true, laidLooks := .later }
def TextRunesUptoCardSaid : Prop := Claim7.holds Tryd.pinned (.plain (OpenSpec.upto textRunesSpec)) textRunesUptoCard

/-- THE SECOND FORM's CARD OF 'chancellaw1.TextSize'. -/
def textSizeUptoCard : Claim7 := { stood := { row := textSizeUptoRow, standIns := [], harness := (true, "4309287540472c8cc478faa8182f997a6499378370ee7b04c0e710cea50d2200"), looks := false }, kinds := [], alts := [], laidByText := true, laidKinds := [.data, .data, .data, .data, .pinned], laidTests := true, laidLooks := .later }
def TextSizeUptoCardSaid : Prop := Claim7.holds Tryd.pinned (.plain (OpenSpec.upto textSizeSpec)) textSizeUptoCard

/-- THE SECOND FORM's CARD OF 'chancellaw1.TextQuotes'. -/
def textQuotesUptoCard : Claim7 := { stood := { row := textQuotesUptoRow, standIns := [], harness := (true, "4309287540472c8cc478faa8182f997a6499378370ee7b04c0e710cea50d2200"), looks := false }, kinds := [], alts := [], laidByText := true, laidKinds := [.data, .data, .data, .data, .pinned], laidTests := true, laidLooks := .later }
def TextQuotesUptoCardSaid : Prop := Claim7.holds Tryd.pinned (.plain (OpenSpec.upto textQuotesSpec)) textQuotesUptoCard

/-- THE SECOND FORM's CARD OF 'chancellaw1.TextReads'. -/
def textReadsUptoCard : Claim7 := { stood := { row := textReadsUptoRow, standIns := [], harness := (true, "4309287540472c8cc478faa8182f997a6499378370ee7b04c0e710cea50d2200"), looks := false }, kinds := [], alts := [], laidByText := true, laidKinds := [.data, .data, .data, .data, .pinned], laidTests := true, laidLooks := .later }
def TextReadsUptoCardSaid : Prop := Claim7.holds Tryd.pinned (.plain (OpenSpec.upto textReadsSpec)) textReadsUptoCard

/-- THE SECOND FORM's CARD OF 'chancellaw1.TextBad'. -/
def textBadUptoCard : Claim7 := { stood := { row := textBadUptoRow, standIns := [], harness := (true, "4309287540472c8cc478faa8182f997a6499378370ee7b04c0e710cea50d2200"), looks := false }, kinds := [], alts := [], laidByText := true, laidKinds := [.data, .data, .data, .data, .pinned], laidTests := true, laidLooks := .later }
def TextBadUptoCardSaid : Prop := Claim7.holds Tryd.pinned (.plain (OpenSpec.upto textBadSpec)) textBadUptoCard
end Rows
end Go.Proofs.YtapccgkkcgggiaaDoor
