/-
  DERIVED. GIVEN WITH THE SEED: THE CARDS: each row of YtpgohbnaphkngaaDoorRows.lean that lists a variable, with what it lists TIED to the program's text (the seventh form; the later family's looks); each row that meets fmt, with fmt's text TOLD by the authors' own Lean function (tested against real Go, not proved from fmt's source: count such statements apart). THE CARD IS WHAT COUNTS. Prove the row's statement (the work); the ties are given (YtpgohbnaphkngaaDoorTie.lean); close each card by the builder's one call (the guide's Derived/Test/ToyasCard.lean, 'card_holds'). Laid BY PROGRAM, IN A SANDBOX (cutbox-door.mjs). By AI agents, Wed Nov 11 2026. No macro, syntax, notation, axiom, sorry.
-/
import Derived.Test.YtpgohbnaphkngaaDoorRows
import GoSem.ClaimSeven
namespace Go.Proofs.YtpgohbnaphkngaaDoor
namespace Rows

/-- THE TIED CARD OF 'dormouselaw12.IsaEncodes'. -/
def isaEncodesCard : Claim7 := { stood := { row := isaEncodesRow, standIns := [], harness := (true, "d89ea6c87e700680fd9f7b0e2cadb954407153fce9f48a275aa9c1ac018cb73b"), looks := false }, kinds := [], alts := [], laidByText := true, laidKinds := [.data, .data, .data, .data, .widerDeep, .pinned], laidTests := true, laidLooks := .later }
def IsaEncodesCardSaid : Prop := Claim7.holds Tryd.pinned (.plain (OpenSpec.ofChange isaEncodesSpec)) isaEncodesCard

/-- THE TIED CARD OF 'dormouselaw12.IsaDecodes'. -/
def isaDecodesCard : Claim7 := { stood := { row := isaDecodesRow, standIns := [], harness := (true, "d89ea6c87e700680fd9f7b0e2cadb954407153fce9f48a275aa9c1ac018cb73b"), looks := false }, kinds := [], alts := [], laidByText := true, laidKinds := [.data, .data, .data, .data, .widerDeep, .pinned], laidTests := true, laidLooks := .later }
def IsaDecodesCardSaid : Prop := Claim7.holds Tryd.pinned (.plain (OpenSpec.ofChange isaDecodesSpec)) isaDecodesCard

/-- THE TIED CARD OF 'dormouselaw12.IsaWords'. -/
def isaWordsCard : Claim7 := { stood := { row := isaWordsRow, standIns := [], harness := (true, "d89ea6c87e700680fd9f7b0e2cadb954407153fce9f48a275aa9c1ac018cb73b"), looks := false }, kinds := [], alts := [], laidByText := true, laidKinds := [.data, .data, .data, .data, .widerDeep, .pinned], laidTests := true, laidLooks := .later }
def IsaWordsCardSaid : Prop := Claim7.holds Tryd.pinned (.plain (OpenSpec.ofChange isaWordsSpec)) isaWordsCard

/-- THE TIED CARD OF 'dormouselaw12.IsaParses'. -/
def isaParsesCard : Claim7 := { stood := { row := isaParsesRow, standIns := [], harness := (true, "d89ea6c87e700680fd9f7b0e2cadb954407153fce9f48a275aa9c1ac018cb73b"), looks := false }, kinds := [], alts := [], laidByText := true, laidKinds := [.data, .data, .data, .data, .widerDeep, .pinned], laidTests := true, laidLooks := .later }
def IsaParsesCardSaid : Prop := Claim7.holds Tryd.pinned (.plain (OpenSpec.ofChange isaParsesSpec)) isaParsesCard

/-- THE TIED CARD OF 'dormouselaw12.IsaCodes'. -/
def isaCodesCard : Claim7 := { stood := { row := isaCodesRow, standIns := [], harness := (true, "d89ea6c87e700680fd9f7b0e2cadb954407153fce9f48a275aa9c1ac018cb73b"), looks := false }, kinds := [], alts := [], laidByText := true, laidKinds := [.data, .data, .data, .data, .widerDeep, .pinned], laidTests := true, laidLooks := .later }
def IsaCodesCardSaid : Prop := Claim7.holds Tryd.pinned (.plain (OpenSpec.ofChange isaCodesSpec)) isaCodesCard

/-- THE TIED CARD OF 'dormouselaw12.IsaBack'. -/
def isaBackCard : Claim7 := { stood := { row := isaBackRow, standIns := [], harness := (true, "d89ea6c87e700680fd9f7b0e2cadb954407153fce9f48a275aa9c1ac018cb73b"), looks := false }, kinds := [], alts := [], laidByText := true, laidKinds := [.data, .data, .data, .data, .widerDeep, .pinned], laidTests := true, laidLooks := .later }
def IsaBackCardSaid : Prop := Claim7.holds Tryd.pinned (.plain (OpenSpec.ofChange isaBackSpec)) isaBackCard

/-- THE TIED CARD OF 'dormouselaw12.IsaNumbers'. -/
def isaNumbersCard : Claim7 := { stood := { row := isaNumbersRow, standIns := [], harness := (true, "d89ea6c87e700680fd9f7b0e2cadb954407153fce9f48a275aa9c1ac018cb73b"), looks := false }, kinds := [], alts := [], laidByText := true, laidKinds := [.data, .data, .data, .data, .widerDeep, .pinned], laidTests := true, laidLooks := .later }
def IsaNumbersCardSaid : Prop := Claim7.holds Tryd.pinned (.plain (OpenSpec.ofChange isaNumbersSpec)) isaNumbersCard

/-- THE SECOND FORM's CARD OF 'dormouselaw12.IsaEncodes'. -/
def isaEncodesUptoCard : Claim7 := { stood := { row := isaEncodesUptoRow, standIns := [], harness := (true, "d89ea6c87e700680fd9f7b0e2cadb954407153fce9f48a275aa9c1ac018cb73b"), looks := false }, kinds := [], alts := [], laidByText := true, laidKinds := [.data, .data, .data, .data, .widerDeep, .pinned], laidTests := true, laidLooks := .later }
def IsaEncodesUptoCardSaid : Prop := Claim7.holds Tryd.pinned (.plain (OpenSpec.upto isaEncodesSpec)) isaEncodesUptoCard

/-- THE SECOND FORM's CARD OF 'dormouselaw12.IsaDecodes'. -/
def isaDecodesUptoCard : Claim7 := { stood := { row := isaDecodesUptoRow, standIns := [], harness := (true, "d89ea6c87e700680fd9f7b0e2cadb954407153fce9f48a275aa9c1ac018cb73b"), looks := false }, kinds := [], alts := [], laidByText := true, laidKinds := [.data, .data, .data, .data, .widerDeep, .pinned], laidTests := true, laidLooks := .later }
def IsaDecodesUptoCardSaid : Prop := Claim7.holds Tryd.pinned (.plain (OpenSpec.upto isaDecodesSpec)) isaDecodesUptoCard

/-- THE SECOND FORM's CARD OF 'dormouselaw12.IsaWords'. -/
def isaWordsUptoCard : Claim7 := { stood := { row := isaWordsUptoRow, standIns := [], harness := (true, "d89ea6c87e700680fd9f7b0e2cadb954407153fce9f48a275aa9c1ac018cb73b"), looks := false }, kinds := [], alts := [], laidByText := true, laidKinds := [.data, .data, .data, .data, .widerDeep, .pinned], laidTests := true, laidLooks := .later }
def IsaWordsUptoCardSaid : Prop := Claim7.holds Tryd.pinned (.plain (OpenSpec.upto isaWordsSpec)) isaWordsUptoCard

/-- THE SECOND FORM's CARD OF 'dormouselaw12.IsaParses'. -/
def isaParsesUptoCard : Claim7 := { stood := { row := isaParsesUptoRow, standIns := [], harness := (true, "d89ea6c87e700680fd9f7b0e2cadb954407153fce9f48a275aa9c1ac018cb73b"), looks := false }, kinds := [], alts := [], laidByText := true, laidKinds := [.data, .data, .data, .data, .widerDeep, .pinned], laidTests := true, laidLooks := .later }
def IsaParsesUptoCardSaid : Prop := Claim7.holds Tryd.pinned (.plain (OpenSpec.upto isaParsesSpec)) isaParsesUptoCard

/-- THE SECOND FORM's CARD OF 'dormouselaw12.IsaCodes'. -/
def isaCodesUptoCard : Claim7 := { stood := { row := isaCodesUptoRow, standIns := [], harness := (true, "d89ea6c87e700680fd9f7b0e2cadb954407153fce9f48a275aa9c1ac018cb73b"), looks := false }, kinds := [], alts := [], laidByText := true, laidKinds := [.data, .data, .data, .data, .widerDeep, .pinned], laidTests := true, laidLooks := .later }
def IsaCodesUptoCardSaid : Prop := Claim7.holds Tryd.pinned (.plain (OpenSpec.upto isaCodesSpec)) isaCodesUptoCard

/-- THE SECOND FORM's CARD OF 'dormouselaw12.IsaBack'. -/
def isaBackUptoCard : Claim7 := { stood := { row := isaBackUptoRow, standIns := [], harness := (true, "d89ea6c87e700680fd9f7b0e2cadb954407153fce9f48a275aa9c1ac018cb73b"), looks := false }, kinds := [], alts := [], laidByText := true, laidKinds := [.data, .data, .data, .data, .widerDeep, .pinned], laidTests := true, laidLooks := .later }
def IsaBackUptoCardSaid : Prop := Claim7.holds Tryd.pinned (.plain (OpenSpec.upto isaBackSpec)) isaBackUptoCard

/-- THE SECOND FORM's CARD OF 'dormouselaw12.IsaNumbers'. -/
def isaNumbersUptoCard : Claim7 := { stood := { row := isaNumbersUptoRow, standIns := [], harness := (true, "d89ea6c87e700680fd9f7b0e2cadb954407153fce9f48a275aa9c1ac018cb73b"), looks := false }, kinds := [], alts := [], laidByText := true, laidKinds := [.data, .data, .data, .data, .widerDeep, .pinned], laidTests := true, laidLooks := .later }
def IsaNumbersUptoCardSaid : Prop := Claim7.holds Tryd.pinned (.plain (OpenSpec.upto isaNumbersSpec)) isaNumbersUptoCard
end Rows
end Go.Proofs.YtpgohbnaphkngaaDoor
