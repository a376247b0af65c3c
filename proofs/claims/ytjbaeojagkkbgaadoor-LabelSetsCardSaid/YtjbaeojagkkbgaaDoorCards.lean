/-
  DERIVED. GIVEN WITH THE SEED: THE CARDS: each row of YtjbaeojagkkbgaaDoorRows.lean that lists a variable, with what it lists TIED to the program's text (the seventh form; the later family's looks); each row that meets fmt, with fmt's text TOLD by the authors' own Lean function (tested against real Go, not proved from fmt's source: count such statements apart). THE CARD IS WHAT COUNTS. Prove the row's statement (the work); the ties are given (YtjbaeojagkkbgaaDoorTie.lean); close each card by the builder's one call (the guide's Derived/Test/ToyasCard.lean, 'card_holds'). Laid BY PROGRAM, IN A SANDBOX (cutbox-door.mjs). By AI agents, Wed Nov 11 2026. No macro, syntax, notation, axiom, sorry.
-/
import Derived.Test.YtjbaeojagkkbgaaDoorRows
import GoSem.ClaimSeven
namespace Go.Proofs.YtjbaeojagkkbgaaDoor
namespace Rows

/-- THE TIED CARD OF 'platbooklaw12.LabelNames'. -/
def labelNamesCard : Claim7 := { stood := { row := labelNamesRow, standIns := [], harness := (true, "634714e133702ab8cc8acfac889694ece858d9fec60a92d4cf966950b26db8e2"), looks := false }, kinds := [], alts := [], laidByText := true, laidKinds := [.data, .pinned], laidTests := true, laidLooks := .later }
def LabelNamesCardSaid : Prop := Claim7.holds Tryd.pinned (.plain (OpenSpec.ofChange labelNamesSpec)) labelNamesCard

/-- THE TIED CARD OF 'platbooklaw12.LabelTexts'. -/
def labelTextsCard : Claim7 := { stood := { row := labelTextsRow, standIns := [], harness := (true, "634714e133702ab8cc8acfac889694ece858d9fec60a92d4cf966950b26db8e2"), looks := false }, kinds := [], alts := [], laidByText := true, laidKinds := [.data, .pinned], laidTests := true, laidLooks := .later }
def LabelTextsCardSaid : Prop := Claim7.holds Tryd.pinned (.plain (OpenSpec.ofChange labelTextsSpec)) labelTextsCard

/-- THE TIED CARD OF 'platbooklaw12.LabelSets'. -/
def labelSetsCard : Claim7 := { stood := { row := labelSetsRow, standIns := [], harness := (true, "634714e133702ab8cc8acfac889694ece858d9fec60a92d4cf966950b26db8e2"), looks := false }, kinds := [], alts := [], laidByText := true, laidKinds := [.data, .pinned], laidTests := true, laidLooks := .later }
def LabelSetsCardSaid : Prop := Claim7.holds Tryd.pinned (.plain (OpenSpec.ofChange labelSetsSpec)) labelSetsCard

/-- THE TIED CARD OF 'platbooklaw13.SelectorTexts'. -/
def selectorTextsCard : Claim7 := { stood := { row := selectorTextsRow, standIns := [], harness := (true, "634714e133702ab8cc8acfac889694ece858d9fec60a92d4cf966950b26db8e2"), looks := false }, kinds := [], alts := [], laidByText := true, laidKinds := [.data, .pinned], laidTests := true, laidLooks := .later }
def SelectorTextsCardSaid : Prop := Claim7.holds Tryd.pinned (.plain (OpenSpec.ofChange selectorTextsSpec)) selectorTextsCard

/-- THE TIED CARD OF 'platbooklaw13.SelectorMore'. -/
def selectorMoreCard : Claim7 := { stood := { row := selectorMoreRow, standIns := [], harness := (true, "634714e133702ab8cc8acfac889694ece858d9fec60a92d4cf966950b26db8e2"), looks := false }, kinds := [], alts := [], laidByText := true, laidKinds := [.data, .pinned], laidTests := true, laidLooks := .later }
def SelectorMoreCardSaid : Prop := Claim7.holds Tryd.pinned (.plain (OpenSpec.ofChange selectorMoreSpec)) selectorMoreCard

/-- THE TIED CARD OF 'platbooklaw13.SelectorFits'. -/
def selectorFitsCard : Claim7 := { stood := { row := selectorFitsRow, standIns := [], harness := (true, "634714e133702ab8cc8acfac889694ece858d9fec60a92d4cf966950b26db8e2"), looks := false }, kinds := [], alts := [], laidByText := true, laidKinds := [.data, .pinned], laidTests := true, laidLooks := .later }
def SelectorFitsCardSaid : Prop := Claim7.holds Tryd.pinned (.plain (OpenSpec.ofChange selectorFitsSpec)) selectorFitsCard

/-- THE SECOND FORM's CARD OF 'platbooklaw12.LabelNames'. -/
def labelNamesUptoCard : Claim7 := { stood := { row := labelNamesUptoRow, standIns := [], harness := (true, "634714e133702ab8cc8acfac889694ece858d9fec60a92d4cf966950b26db8e2"), looks := false }, kinds := [], alts := [], laidByText := true, laidKinds := [.data, .pinned], laidTests := true, laidLooks := .later }
def LabelNamesUptoCardSaid : Prop := Claim7.holds Tryd.pinned (.plain (OpenSpec.upto labelNamesSpec)) labelNamesUptoCard

/-- THE SECOND FORM's CARD OF 'platbooklaw12.LabelTexts'. -/
def labelTextsUptoCard : Claim7 := { stood := { row := labelTextsUptoRow, standIns := [], harness := (true, "634714e133702ab8cc8acfac889694ece858d9fec60a92d4cf966950b26db8e2"), looks := false }, kinds := [], alts := [], laidByText := true, laidKinds := [.data, .pinned], laidTests := true, laidLooks := .later }
def LabelTextsUptoCardSaid : Prop := Claim7.holds Tryd.pinned (.plain (OpenSpec.upto labelTextsSpec)) labelTextsUptoCard

/-- THE SECOND FORM's CARD OF 'platbooklaw12.LabelSets'. -/
def labelSetsUptoCard : Claim7 := { stood := { row := labelSetsUptoRow, standIns := [], harness := (true, "634714e133702ab8cc8acfac889694ece858d9fec60a92d4cf966950b26db8e2"), looks := false }, kinds := [], alts := [], laidByText := true, laidKinds := [.data, .pinned], laidTests := true, laidLooks := .later }
def LabelSetsUptoCardSaid : Prop := Claim7.holds Tryd.pinned (.plain (OpenSpec.upto labelSetsSpec)) labelSetsUptoCard

/-- THE SECOND FORM's CARD OF 'platbooklaw13.SelectorTexts'. -/
def selectorTextsUptoCard : Claim7 := { stood := { row := selectorTextsUptoRow, standIns := [], harness := (true, "634714e133702ab8cc8acfac889694ece858d9fec60a92d4cf966950b26db8e2"), looks := false }, kinds := [], alts := [], laidByText := true, laidKinds := [.data, .pinned], laidTests := true, laidLooks := .later }
def SelectorTextsUptoCardSaid : Prop := Claim7.holds Tryd.pinned (.plain (OpenSpec.upto selectorTextsSpec)) selectorTextsUptoCard

/-- THE SECOND FORM's CARD OF 'platbooklaw13.SelectorMore'. -/
def selectorMoreUptoCard : Claim7 := { stood := { row := selectorMoreUptoRow, standIns := [], harness := (true, "634714e133702ab8cc8acfac889694ece858d9fec60a92d4cf966950b26db8e2"), looks := false }, kinds := [], alts := [], laidByText := true, laidKinds := [.data, .pinned], laidTests := true, laidLooks := .later }
def SelectorMoreUptoCardSaid : Prop := Claim7.holds Tryd.pinned (.plain (OpenSpec.upto selectorMoreSpec)) selectorMoreUptoCard

/-- THE SECOND FORM's CARD OF 'platbooklaw13.SelectorFits'. -/
def selectorFitsUptoCard : Claim7 := { stood := { row := selectorFitsUptoRow, standIns := [], harness := (true, "634714e133702ab8cc8acfac889694ece858d9fec60a92d4cf966950b26db8e2"), looks := false }, kinds := [], alts := [], laidByText := true, laidKinds := [.data, .pinned], laidTests := true, laidLooks := .later }
def SelectorFitsUptoCardSaid : Prop := Claim7.holds Tryd.pinned (.plain (OpenSpec.upto selectorFitsSpec)) selectorFitsUptoCard
end Rows
end Go.Proofs.YtjbaeojagkkbgaaDoor
