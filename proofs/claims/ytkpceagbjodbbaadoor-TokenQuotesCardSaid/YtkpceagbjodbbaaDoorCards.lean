/-
  DERIVED. GIVEN WITH THE SEED: THE CARDS: each row of YtkpceagbjodbbaaDoorRows.lean that lists a variable, with what it lists TIED to the program's text (the seventh form; the later family's looks); each row that meets fmt, with fmt's text TOLD by the authors' own Lean function (tested against real Go, not proved from fmt's source: count such statements apart). THE CARD IS WHAT COUNTS. Prove the row's statement (the work); the ties are given (YtkpceagbjodbbaaDoorTie.lean); close each card by the builder's one call (the guide's Derived/Test/ToyasCard.lean, 'card_holds'). Laid BY PROGRAM, IN A SANDBOX (cutbox-door.mjs). By AI agents, Wed Nov 11 2026. No macro, syntax, notation, axiom, sorry.
-/
import Derived.Test.YtkpceagbjodbbaaDoorRows
import GoSem.ClaimSeven
namespace Go.Proofs.YtkpceagbjodbbaaDoor
namespace Rows

/-- THE TIED CARD OF 'scholiastlaw02.TokenWords'. -/
def tokenWordsCard : Claim7 := { stood := { row := tokenWordsRow, standIns := [], harness := (true, "c7d2db72b55bf55fa10893bd439729dad349cc9b4f7cc93b608a7ef6081e52c5"), looks := false }, kinds := [], alts := [], laidByText := true, laidKinds := [.data, .pinned], laidTests := true, laidLooks := .later }
def TokenWordsCardSaid : Prop := Claim7.holds Tryd.pinned (.plain (OpenSpec.ofChange tokenWordsSpec)) tokenWordsCard

/-- THE TIED CARD OF 'scholiastlaw02.TokenDigits'. -/
def tokenDigitsCard : Claim7 := { stood := { row := tokenDigitsRow, standIns := [], harness := (true, "c7d2db72b55bf55fa10893bd439729dad349cc9b4f7cc93b608a7ef6081e52c5"), looks := false }, kinds := [], alts := [], laidByText := true, laidKinds := [.data, .pinned], laidTests := true, laidLooks := .later }
def TokenDigitsCardSaid : Prop := Claim7.holds Tryd.pinned (.plain (OpenSpec.ofChange tokenDigitsSpec)) tokenDigitsCard

/-- THE TIED CARD OF 'scholiastlaw02.TokenNumbers'. -/
def tokenNumbersCard : Claim7 := { stood := { row := tokenNumbersRow, standIns := [], harness := (true, "c7d2db72b55bf55fa10893bd439729dad349cc9b4f7cc93b608a7ef6081e52c5"), looks := false }, kinds := [], alts := [], laidByText := true, laidKinds := [.data, .pinned], laidTests := true, laidLooks := .later }
def TokenNumbersCardSaid : Prop := Claim7.holds Tryd.pinned (.plain (OpenSpec.ofChange tokenNumbersSpec)) tokenNumbersCard

/-- THE TIED CARD OF 'scholiastlaw02.TokenTexts'. -/
def tokenTextsCard : Claim7 := { stood := { row := tokenTextsRow, standIns := [], harness := (true, "c7d2db72b55bf55fa10893bd439729dad349cc9b4f7cc93b608a7ef6081e52c5"), looks := false }, kinds := [], alts := [], laidByText := true, laidKinds := [.data, .pinned], laidTests := true, laidLooks := .later }
def TokenTextsCardSaid : Prop := Claim7.holds Tryd.pinned (.plain (OpenSpec.ofChange tokenTextsSpec)) tokenTextsCard

/-- THE TIED CARD OF 'scholiastlaw02.TokenQuotes'. -/
def tokenQuotesCard : Claim7 := { stood := { row := tokenQuotesRow, standIns := [], harness := (true, "c7d2db72b55bf55fa10893bd439729dad349cc9b4f7cc93b608a7ef6081e52c5"), looks := false }, kinds := [], alts := [], laidByText := true, laidKinds := [.data, .pinned], laidTests := true, laidLooks := .later }
def TokenQuotesCardSaid : Prop := Claim7.holds Tryd.pinned (.plain (OpenSpec.ofChange tokenQuotesSpec)) tokenQuotesCard

/-- THE TIED CARD OF 'scholiastlaw02.TokenBack'. -/
def tokenBackCard : Claim7 := { stood := { row := tokenBackRow, standIns := [], harness := (true, "c7d2db72b55bf55fa10893bd439729dad349cc9b4f7cc93b608a7ef6081e52c5"), looks := false }, kinds := [], alts := [], laidByText := true, laidKinds := [.data, .pinned], laidTests := true, laidLooks := .later }
def TokenBackCardSaid : Prop := Claim7.holds Tryd.pinned (.plain (OpenSpec.ofChange tokenBackSpec)) tokenBackCard

/-- THE TIED CARD OF 'scholiastlaw02.TokenKinds'. -/
def tokenKindsCard : Claim7 := { stood := { row := tokenKindsRow, standIns := [], harness := (true, "c7d2db72b55bf55fa10893bd439729dad349cc9b4f7cc93b608a7ef6081e52c5"), looks := false }, kinds := [], alts := [], laidByText := true, laidKinds := [.data, .pinned], laidTests := true, laidLooks := .later }
def TokenKindsCardSaid : Prop := Claim7.holds Tryd.pinned (.plain (OpenSpec.ofChange tokenKindsSpec)) tokenKindsCard

/-- THE SECOND FORM's CARD OF 'scholiastlaw02.TokenWords'. -/
def tokenWordsUptoCard : Claim7 := { stood := { row := tokenWordsUptoRow, standIns := [], harness := (true, "c7d2db72b55bf55fa10893bd439729dad349cc9b4f7cc93b608a7ef6081e52c5"), looks := false }, kinds := [], alts := [], laidByText := true, laidKinds := [.data, .pinned], laidTests := true, laidLooks := .later }
def TokenWordsUptoCardSaid : Prop := Claim7.holds Tryd.pinned (.plain (OpenSpec.upto tokenWordsSpec)) tokenWordsUptoCard

/-- THE SECOND FORM's CARD OF 'scholiastlaw02.TokenDigits'. -/
def tokenDigitsUptoCard : Claim7 := { stood := { row := tokenDigitsUptoRow, standIns := [], harness := (true, "c7d2db72b55bf55fa10893bd439729dad349cc9b4f7cc93b608a7ef6081e52c5"), looks := false }, kinds := [], alts := [], laidByText := true, laidKinds := [.data, .pinned], laidTests := true, laidLooks := .later }
def TokenDigitsUptoCardSaid : Prop := Claim7.holds Tryd.pinned (.plain (OpenSpec.upto tokenDigitsSpec)) tokenDigitsUptoCard

/-- THE SECOND FORM's CARD OF 'scholiastlaw02.TokenNumbers'. -/
def tokenNumbersUptoCard : Claim7 := { stood := { row := tokenNumbersUptoRow, standIns := [], harness := (true, "c7d2db72b55bf55fa10893bd439729dad349cc9b4f7cc93b608a7ef6081e52c5"), looks := false }, kinds := [], alts := [], laidByText := true, laidKinds := [.data, .pinned], laidTests := true, laidLooks := .later }
def TokenNumbersUptoCardSaid : Prop := Claim7.holds Tryd.pinned (.plain (OpenSpec.upto tokenNumbersSpec)) tokenNumbersUptoCard

/-- THE SECOND FORM's CARD OF 'scholiastlaw02.TokenTexts'. -/
def tokenTextsUptoCard : Claim7 := { stood := { row := tokenTextsUptoRow, standIns := [], harness := (true, "c7d2db72b55bf55fa10893bd439729dad349cc9b4f7cc93b608a7ef6081e52c5"), looks := false }, kinds := [], alts := [], laidByText := true, laidKinds := [.data, .pinned], laidTests := true, laidLooks := .later }
def TokenTextsUptoCardSaid : Prop := Claim7.holds Tryd.pinned (.plain (OpenSpec.upto tokenTextsSpec)) tokenTextsUptoCard

/-- THE SECOND FORM's CARD OF 'scholiastlaw02.TokenQuotes'. -/
def tokenQuotesUptoCard : Claim7 := { stood := { row := tokenQuotesUptoRow, standIns := [], harness := (true, "c7d2db72b55bf55fa10893bd439729dad349cc9b4f7cc93b608a7ef6081e52c5"), looks := false }, kinds := [], alts := [], laidByText := true, laidKinds := [.data, .pinned], laidTests := true, laidLooks := .later }
def TokenQuotesUptoCardSaid : Prop := Claim7.holds Tryd.pinned (.plain (OpenSpec.upto tokenQuotesSpec)) tokenQuotesUptoCard

/-- THE SECOND FORM's CARD OF 'scholiastlaw02.TokenBack'. -/
def tokenBackUptoCard : Claim7 := { stood := { row := tokenBackUptoRow, standIns := [], harness := (true, "c7d2db72b55bf55fa10893bd439729dad349cc9b4f7cc93b608a7ef6081e52c5"), looks := false }, kinds := [], alts := [], laidByText := true, laidKinds := [.data, .pinned], laidTests := true, laidLooks := .later }
def TokenBackUptoCardSaid : Prop := Claim7.holds Tryd.pinned (.plain (OpenSpec.upto tokenBackSpec)) tokenBackUptoCard

/-- THE SECOND FORM's CARD OF 'scholiastlaw02.TokenKinds'. -/
def tokenKindsUptoCard : Claim7 := { stood := { row := tokenKindsUptoRow, standIns := [], harness := (true, "c7d2db72b55bf55fa10893bd439729dad349cc9b4f7cc93b608a7ef6081e52c5"), looks := false }, kinds := [], alts := [], laidByText := true, laidKinds := [.data, .pinned], laidTests := true, laidLooks := .later }
def TokenKindsUptoCardSaid : Prop := Claim7.holds Tryd.pinned (.plain (OpenSpec.upto tokenKindsSpec)) tokenKindsUptoCard
end Rows
end Go.Proofs.YtkpceagbjodbbaaDoor
