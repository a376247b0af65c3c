/-
  DERIVED. GIVEN WITH THE SEED: THE CARDS: each row of YtpffibjemegioaaGreatDoorRows.lean that lists a variable, with what it lists TIED to the program's text (the seventh form; the later family's looks); each row that meets fmt, with fmt's text TOLD by the authors' own Lean function (tested against real Go, not proved from fmt's source: count such statements apart). THE CARD IS WHAT COUNTS. Prove the row's statement (the work); the ties are given (YtpffibjemegioaaGreatDoorTie.lean); close each card by the builder's one call (the guide's Derived/Test/ToyasCard.lean, 'card_holds'). Laid BY PROGRAM, IN A SANDBOX (cutbox-door.mjs). By AI agents, Wed Nov 11 2026. No macro, syntax, notation, axiom, sorry.
-/
import Derived.Test.YtpffibjemegioaaGreatDoorRows
import GoSem.ClaimSeven
namespace Go.Proofs.YtpffibjemegioaaGreatDoor
namespace Rows

/-- THE TIED CARD OF 'platbooklaw14.ObjectRight'. -/
def objectRightCard : Claim7 := { stood := { row := objectRightRow, standIns := [], harness := (true, "b75898a285e4d53c1d25574a098ecd0ceb85567235fd294a9a5305439d3d2b50"), looks := true }, kinds := [], alts := [], laidByText := true, laidKinds := [.data, .data, .data, .data, .sentinel, .sentinel, .pinned], laidTests := true, laidLooks := .later }
def ObjectRightCardSaid : Prop := Claim7.holds Tryz.pinned (.plain (OpenSpec.ofChange objectRightSpec)) objectRightCard

/-- THE TIED CARD OF 'platbooklaw14.ObjectSame'. -/
def objectSameCard : Claim7 := { stood := { row := objectSameRow, standIns := [], harness := (true, "b75898a285e4d53c1d25574a098ecd0ceb85567235fd294a9a5305439d3d2b50"), looks := true }, kinds := [], alts := [], laidByText := true, laidKinds := [.data, .data, .data, .data, .sentinel, .sentinel, .pinned], laidTests := true, laidLooks := .later }
def ObjectSameCardSaid : Prop := Claim7.holds Tryz.pinned (.plain (OpenSpec.ofChange objectSameSpec)) objectSameCard

/-- THE TIED CARD OF 'platbooklaw16.StoreOnce'. -/
def storeOnceCard : Claim7 := { stood := { row := storeOnceRow, standIns := [], harness := (true, "b75898a285e4d53c1d25574a098ecd0ceb85567235fd294a9a5305439d3d2b50"), looks := true }, kinds := [], alts := [], laidByText := true, laidKinds := [.data, .data, .data, .data, .sentinel, .sentinel, .pinned], laidTests := true, laidLooks := .later }
def StoreOnceCardSaid : Prop := Claim7.holds Tryz.pinned (.plain (OpenSpec.ofChange storeOnceSpec)) storeOnceCard

/-- THE TIED CARD OF 'platbooklaw16.StoreKeeps'. -/
def storeKeepsCard : Claim7 := { stood := { row := storeKeepsRow, standIns := [], harness := (true, "b75898a285e4d53c1d25574a098ecd0ceb85567235fd294a9a5305439d3d2b50"), looks := true }, kinds := [], alts := [], laidByText := true, laidKinds := [.data, .data, .data, .data, .sentinel, .sentinel, .pinned], laidTests := true, laidLooks := .later }
def StoreKeepsCardSaid : Prop := Claim7.holds Tryz.pinned (.plain (OpenSpec.ofChange storeKeepsSpec)) storeKeepsCard

/-- THE TIED CARD OF 'platbooklaw16.StoreChanges'. -/
def storeChangesCard : Claim7 := { stood := { row := storeChangesRow, standIns := [], harness := (true, "b75898a285e4d53c1d25574a098ecd0ceb85567235fd294a9a5305439d3d2b50"), looks := true }, kinds := [], alts := [], laidByText := true, laidKinds := [.data, .data, .data, .data, .sentinel, .sentinel, .pinned], laidTests := true, laidLooks := .later }
def StoreChangesCardSaid : Prop := Claim7.holds Tryz.pinned (.plain (OpenSpec.ofChange storeChangesSpec)) storeChangesCard

/-- THE TIED CARD OF 'platbooklaw21.ChooseIsOne'. -/
def chooseIsOneCard : Claim7 := { stood := { row := chooseIsOneRow, standIns := [], harness := (true, "b75898a285e4d53c1d25574a098ecd0ceb85567235fd294a9a5305439d3d2b50"), looks := true }, kinds := [], alts := [], laidByText := true, laidKinds := [.data, .data, .data, .data, .sentinel, .sentinel, .pinned], laidTests := true, laidLooks := .later }
def ChooseIsOneCardSaid : Prop := Claim7.holds Tryz.pinned (.plain (OpenSpec.ofChange chooseIsOneSpec)) chooseIsOneCard

/-- THE SECOND FORM's CARD OF 'platbooklaw14.ObjectRight'. -/
def objectRightUptoCard : Claim7 := { stood := { row := objectRightUptoRow, standIns := [], harness := (true, "b75898a285e4d53c1d25574a098ecd0ceb85567235fd294a9a5305439d3d2b50"), looks := true }, kinds := [], alts := [], laidByText := true, laidKinds := [.data, .data, .data, .data, .sentinel, .sentinel, .pinned], laidTests := true, laidLooks := .later }
def ObjectRightUptoCardSaid : Prop := Claim7.holds Tryz.pinned (.plain (OpenSpec.upto objectRightSpec)) objectRightUptoCard

/-- THE SECOND FORM's CARD OF 'platbooklaw14.ObjectSame'. -/
def objectSameUptoCard : Claim7 := { stood := { row := objectSameUptoRow, standIns := [], harness := (true, "b75898a285e4d53c1d25574a098ecd0ceb85567235fd294a9a5305439d3d2b50"), looks := true }, kinds := [], alts := [], laidByText := true, laidKinds := [.data, .data, .data, .data, .sentinel, .sentinel, .pinned], laidTests := true, laidLooks := .later }
def ObjectSameUptoCardSaid : Prop := Claim7.holds Tryz.pinned (.plain (OpenSpec.upto objectSameSpec)) objectSameUptoCard

/-- THE SECOND FORM's CARD OF 'platbooklaw16.StoreOnce'. -/
def storeOnceUptoCard : Claim7 := { stood := { row := storeOnceUptoRow, standIns := [], harness := (true, "b75898a285e4d53c1d25574a098ecd0ceb85567235fd294a9a5305439d3d2b50"), looks := true }, kinds := [], alts := [], laidByText := true, laidKinds := [.data, .data, .data, .data, .sentinel, .sentinel, .pinned], laidTests := true, laidLooks := .later }
def StoreOnceUptoCardSaid : Prop := Claim7.holds Tryz.pinned (.plain (OpenSpec.upto storeOnceSpec)) storeOnceUptoCard

/-- THE SECOND FORM's CARD OF 'platbooklaw16.StoreKeeps'. -/
def storeKeepsUptoCard : Claim7 := { stood := { row := storeKeepsUptoRow, standIns := [], harness := (true, "b75898a285e4d53c1d25574a098ecd0ceb85567235fd294a9a5305439d3d2b50"), looks := true }, kinds := [], alts := [], laidByText := true, laidKinds := [.data, .data, .data, .data, .sentinel, .sentinel, .pinned], laidTests := true, laidLooks := .later }
def StoreKeepsUptoCardSaid : Prop := Claim7.holds Tryz.pinned (.plain (OpenSpec.upto storeKeepsSpec)) storeKeepsUptoCard

/-- THE SECOND FORM's CARD OF 'platbooklaw16.StoreChanges'. -/
def storeChangesUptoCard : Claim7 := { stood := { row := storeChangesUptoRow, standIns := [], harness := (true, "b75898a285e4d53c1d25574a098ecd0ceb85567235fd294a9a5305439d3d2b50"), looks := true }, kinds := [], alts := [], laidByText := true, laidKinds := [.data, .data, .data, .data, .sentinel, .sentinel, .pinned], laidTests := true, laidLooks := .later }
def StoreChangesUptoCardSaid : Prop := Claim7.holds Tryz.pinned (.plain (OpenSpec.upto storeChangesSpec)) storeChangesUptoCard

/-- THE SECOND FORM's CARD OF 'platbooklaw21.ChooseIsOne'. -/
def chooseIsOneUptoCard : Claim7 := { stood := { row := chooseIsOneUptoRow, standIns := [], harness := (true, "b75898a285e4d53c1d25574a098ecd0ceb85567235fd294a9a5305439d3d2b50"), looks := true }, kinds := [], alts := [], laidByText := true, laidKinds := [.data, .data, .data, .data, .sentinel, .sentinel, .pinned], laidTests := true, laidLooks := .later }
def ChooseIsOneUptoCardSaid : Prop := Claim7.holds Tryz.pinned (.plain (OpenSpec.upto chooseIsOneSpec)) chooseIsOneUptoCard
end Rows
end Go.Proofs.YtpffibjemegioaaGreatDoor
