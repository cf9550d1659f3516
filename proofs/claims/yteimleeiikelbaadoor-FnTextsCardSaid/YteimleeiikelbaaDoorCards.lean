/-
  DERIVED. GIVEN WITH THE SEED: THE CARDS: each row of YteimleeiikelbaaDoorRows.lean that lists a variable, with what it lists TIED to the program's text (the seventh form; the later family's looks); each row that meets fmt, with fmt's text TOLD by the authors' own Lean function (tested against real Go, not proved from fmt's source: count such statements apart). THE CARD IS WHAT COUNTS. Prove the row's statement (the work); the ties are given (YteimleeiikelbaaDoorTie.lean); close each card by the builder's one call (the guide's Derived/Test/ToyasCard.lean, 'card_holds'). Laid BY PROGRAM, IN A SANDBOX (cutbox-door.mjs). By AI agents, Wed Nov 11 2026. No macro, syntax, notation, axiom, sorry.
-/
import Derived.Test.YteimleeiikelbaaDoorRows
import GoSem.ClaimSeven
namespace Go.Proofs.YteimleeiikelbaaDoor
namespace Rows

/-- THE TIED CARD OF 'laws.FnExactWords'. -/
def fnExactWordsCard : Claim7 := { stood := { row := fnExactWordsRow, standIns := [], harness := (true, "22984577a7596c28fc41688b4ecef258fb7402cdb3769fd1457cae5a56e90f1c"), looks := false }, kinds := [], alts := [], laidByText := true, laidKinds := [.data, .pinned], laidTests := true, laidLooks := .later }
def FnExactWordsCardSaid : Prop := Claim7.holds Tryd.pinned (.plain (OpenSpec.ofChange fnExactWordsSpec)) fnExactWordsCard

/-- THE TIED CARD OF 'laws.FnExactParseEvent'. -/
def fnExactParseEventCard : Claim7 := { stood := { row := fnExactParseEventRow, standIns := [], harness := (true, "22984577a7596c28fc41688b4ecef258fb7402cdb3769fd1457cae5a56e90f1c"), looks := false }, kinds := [], alts := [], laidByText := true, laidKinds := [.data, .pinned], laidTests := true, laidLooks := .later }
def FnExactParseEventCardSaid : Prop := Claim7.holds Tryd.pinned (.plain (OpenSpec.ofChange fnExactParseEventSpec)) fnExactParseEventCard

/-- THE TIED CARD OF 'laws.FnTexts'. -/
def fnTextsCard : Claim7 := { stood := { row := fnTextsRow, standIns := [], harness := (true, "22984577a7596c28fc41688b4ecef258fb7402cdb3769fd1457cae5a56e90f1c"), looks := false }, kinds := [], alts := [], laidByText := true, laidKinds := [.data, .pinned], laidTests := true, laidLooks := .later }
def FnTextsCardSaid : Prop := Claim7.holds Tryd.pinned (.plain (OpenSpec.ofChange fnTextsSpec)) fnTextsCard

/-- THE SECOND FORM's CARD OF 'laws.FnExactWords'. -/
def fnExactWordsUptoCard : Claim7 := { stood := { row := fnExactWordsUptoRow, standIns := [], harness := (true, "22984577a7596c28fc41688b4ecef258fb7402cdb3769fd1457cae5a56e90f1c"), looks := false }, kinds := [], alts := [], laidByText := true, laidKinds := [.data, .pinned], laidTests := true, laidLooks := .later }
def FnExactWordsUptoCardSaid : Prop := Claim7.holds Tryd.pinned (.plain (OpenSpec.upto fnExactWordsSpec)) fnExactWordsUptoCard

/-- THE SECOND FORM's CARD OF 'laws.FnExactParseEvent'. -/
def fnExactParseEventUptoCard : Claim7 := { stood := { row := fnExactParseEventUptoRow, standIns := [], harness := (true, "22984577a7596c28fc41688b4ecef258fb7402cdb3769fd1457cae5a56e90f1c"), looks := false }, kinds := [], alts := [], laidByText := true, laidKinds := [.data, .pinned], laidTests := true, laidLooks := .later }
def FnExactParseEventUptoCardSaid : Prop := Claim7.holds Tryd.pinned (.plain (OpenSpec.upto fnExactParseEventSpec)) fnExactParseEventUptoCard

/-- THE SECOND FORM's CARD OF 'laws.FnTexts'. -/
def fnTextsUptoCard : Claim7 := { stood := { row := fnTextsUptoRow, standIns := [], harness := (true, "22984577a7596c28fc41688b4ecef258fb7402cdb3769fd1457cae5a56e90f1c"), looks := false }, kinds := [], alts := [], laidByText := true, laidKinds := [.data, .pinned], laidTests := true, laidLooks := .later }
def FnTextsUptoCardSaid : Prop := Claim7.holds Tryd.pinned (.plain (OpenSpec.upto fnTextsSpec)) fnTextsUptoCard
end Rows
end Go.Proofs.YteimleeiikelbaaDoor
