/-
  NARROWER THAN 'FOR EVERY INPUT', by the rows' own cells (each row's printed sentence says how): LabelNames: laid · LabelTexts: laid · LabelSets: laid · SelectorTexts: laid · SelectorMore: laid · SelectorFits: laid.
  DERIVED. THE GIVEN ROWS OF THIS SEAT. 6 by the template 'for every input the law returns true; each argument reads behind the call as it read before'; 0 by the template 'total and deterministic' (their statements: YtjbaeojagkkbgaaDoorTotals.lean).
  GIVEN WITH THE SEED: the statements are not yours to turn. If you find one false, say at which input.
  Laid BY PROGRAM, IN A SANDBOX (cutbox-rows.mjs): the forced cells as the released guide's own fill.sh prints them over the translation 68cb1c12ee8041d0… (all of the seat's roots in one cut). By AI agents, Wed Nov 11 2026. No macro, syntax, notation, axiom, sorry.
-/
import Derived.Test.YtjbaeojagkkbgaaDoorChecked
import GoSem.PinnedTables
import GoSem.Claim
import GoSem.ClaimJoined
import GoSem.ClaimMapViews
import Derived.JoinedTies
import Derived.KernelRfl
namespace Go.Proofs.YtjbaeojagkkbgaaDoor
/- THE CELL 'sum', in the pinned program and in every row, IS THE sha256 OF THE DUMP (.gsa) THAT YtjbaeojagkkbgaaDoorProg.lean LOADS. Nothing in Lean hashes anything: it is a label: what it is worth is what the hold of that sum in a sandbox is worth. -/
noncomputable def Tryd.pinned : Pinned := { name := "ytjbaeojagkkbgaadoor", sum := "68cb1c12ee8041d0f33298540a3fa14aac468d5a944f8738a523e5b49bb64990", checked := Tryd.checked }
namespace Rows
def none {H : Type} : Left H := { results := [], args := [] }

/- WHAT THE LISTED PACKAGE-LEVEL VARIABLES READ AS WHEN THE CALL BEGINS. Each datum BY PROGRAM (the guide's laid-datum.mjs) off the statement by which the dump's own 'gosem.cut.vars' lays the variable. In a bare row this is a premise. The card (YtjbaeojagkkbgaaDoorCards.lean) ties it to the program's text. -/
def laid_unicode_utf8_acceptRanges {H : Type} : DataW H := .agg [.agg [.lit (.int .u8 128), .lit (.int .u8 191)], .agg [.lit (.int .u8 160), .lit (.int .u8 191)], .agg [.lit (.int .u8 128), .lit (.int .u8 159)], .agg [.lit (.int .u8 144), .lit (.int .u8 191)], .agg [.lit (.int .u8 128), .lit (.int .u8 143)], .agg [.lit (.int .u8 0), .lit (.int .u8 0)], .agg [.lit (.int .u8 0), .lit (.int .u8 0)], .agg [.lit (.int .u8 0), .lit (.int .u8 0)], .agg [.lit (.int .u8 0), .lit (.int .u8 0)], .agg [.lit (.int .u8 0), .lit (.int .u8 0)], .agg [.lit (.int .u8 0), .lit (.int .u8 0)], .agg [.lit (.int .u8 0), .lit (.int .u8 0)], .agg [.lit (.int .u8 0), .lit (.int .u8 0)], .agg [.lit (.int .u8 0), .lit (.int .u8 0)], .agg [.lit (.int .u8 0), .lit (.int .u8 0)], .agg [.lit (.int .u8 0), .lit (.int .u8 0)]]
/-- One of Go's own tables, pinned by name: the form's constant. -/
def laid_unicode_utf8_first : DataW Unit := Go.Pinned.utf8First

/-- 'platbooklaw12.LabelNames': WHATEVER THE INPUT: true; the input reads as it did. -/
def labelNamesSpec : ChangeSpec := { name := "labelNames", fn := fun _ => fun
  | [d] => { results := [.lit (.bool true)], args := [d] }
  | _ => none }
def labelNamesRow : OpenClaim := { program := "ytjbaeojagkkbgaadoor", sum := "68cb1c12ee8041d0f33298540a3fa14aac468d5a944f8738a523e5b49bb64990", func := "platbook/platbooklaw12.LabelNames", spec := "labelNames", inPlace := ["internal/bytealg.CountString", "internal/bytealg.IndexByteString", "internal/bytealg.IndexString"], unfollowed := true, recurses := true, named := ["unicode/utf8.first", "unicode/utf8.acceptRanges", "internal/bytealg.MaxLen"], apart := false, laid := [("unicode/utf8.acceptRanges", laid_unicode_utf8_acceptRanges), ("unicode/utf8.first", laid_unicode_utf8_first)] }
def LabelNamesSaid : Prop := labelNamesRow.holds Tryd.pinned (OpenSpec.ofChange labelNamesSpec)

/-- ITS FALSE NEIGHBOUR: 'it returns false'. Refute it at one input. -/
def labelNamesWrong : ChangeSpec := { name := "labelNames", fn := fun _ => fun
  | [d] => { results := [.lit (.bool false)], args := [d] }
  | _ => none }
def LabelNamesWrongFalsely : Prop := labelNamesRow.holds Tryd.pinned (OpenSpec.ofChange labelNamesWrong)

/-- 'platbooklaw12.LabelTexts': WHATEVER THE INPUT: true; the input reads as it did. -/
def labelTextsSpec : ChangeSpec := { name := "labelTexts", fn := fun _ => fun
  | [d1, d2] => { results := [.lit (.bool true)], args := [d1, d2] }
  | _ => none }
def labelTextsRow : OpenClaim := { program := "ytjbaeojagkkbgaadoor", sum := "68cb1c12ee8041d0f33298540a3fa14aac468d5a944f8738a523e5b49bb64990", func := "platbook/platbooklaw12.LabelTexts", spec := "labelTexts", inPlace := ["internal/bytealg.CountString", "internal/bytealg.IndexByteString", "internal/bytealg.IndexString", "internal/abi.NoEscape", "internal/bytealg.MakeNoZero"], unfollowed := true, recurses := true, named := ["unicode/utf8.first", "unicode/utf8.acceptRanges", "internal/bytealg.MaxLen"], apart := false, laid := [("unicode/utf8.acceptRanges", laid_unicode_utf8_acceptRanges), ("unicode/utf8.first", laid_unicode_utf8_first)] }
def LabelTextsSaid : Prop := labelTextsRow.holds Tryd.pinned (OpenSpec.ofChange labelTextsSpec)

/-- ITS FALSE NEIGHBOUR: 'it returns false'. Refute it at one input. -/
def labelTextsWrong : ChangeSpec := { name := "labelTexts", fn := fun _ => fun
  | [d1, d2] => { results := [.lit (.bool false)], args := [d1, d2] }
  | _ => none }
def LabelTextsWrongFalsely : Prop := labelTextsRow.holds Tryd.pinned (OpenSpec.ofChange labelTextsWrong)

/-- 'platbooklaw12.LabelSets': WHATEVER THE INPUT: true; the input reads as it did. -/
def labelSetsSpec : ChangeSpec := { name := "labelSets", fn := fun _ => fun
  | [d1, d2, d3] => { results := [.lit (.bool true)], args := [d1, d2, d3] }
  | _ => none }
def labelSetsRow : OpenClaim := { program := "ytjbaeojagkkbgaadoor", sum := "68cb1c12ee8041d0f33298540a3fa14aac468d5a944f8738a523e5b49bb64990", func := "platbook/platbooklaw12.LabelSets", spec := "labelSets", inPlace := ["internal/bytealg.CountString", "internal/bytealg.IndexByteString", "internal/bytealg.IndexString", "internal/bytealg.abigen_runtime_cmpstring", "slices.overlaps[platbook/api.Pair]"], unfollowed := true, recurses := true, named := ["unicode/utf8.first", "unicode/utf8.acceptRanges", "internal/bytealg.MaxLen"], apart := false, laid := [("unicode/utf8.acceptRanges", laid_unicode_utf8_acceptRanges), ("unicode/utf8.first", laid_unicode_utf8_first)] }
def LabelSetsSaid : Prop := labelSetsRow.holds Tryd.pinned (OpenSpec.ofChange labelSetsSpec)

/-- ITS FALSE NEIGHBOUR: 'it returns false'. Refute it at one input. -/
def labelSetsWrong : ChangeSpec := { name := "labelSets", fn := fun _ => fun
  | [d1, d2, d3] => { results := [.lit (.bool false)], args := [d1, d2, d3] }
  | _ => none }
def LabelSetsWrongFalsely : Prop := labelSetsRow.holds Tryd.pinned (OpenSpec.ofChange labelSetsWrong)

/-- 'platbooklaw13.SelectorTexts': WHATEVER THE INPUT: true; the input reads as it did. -/
def selectorTextsSpec : ChangeSpec := { name := "selectorTexts", fn := fun _ => fun
  | [d1, d2] => { results := [.lit (.bool true)], args := [d1, d2] }
  | _ => none }
def selectorTextsRow : OpenClaim := { program := "ytjbaeojagkkbgaadoor", sum := "68cb1c12ee8041d0f33298540a3fa14aac468d5a944f8738a523e5b49bb64990", func := "platbook/platbooklaw13.SelectorTexts", spec := "selectorTexts", inPlace := ["internal/bytealg.CountString", "internal/bytealg.IndexByteString", "internal/bytealg.IndexString", "internal/abi.NoEscape", "internal/bytealg.MakeNoZero"], unfollowed := true, recurses := true, named := ["unicode/utf8.first", "unicode/utf8.acceptRanges", "internal/bytealg.MaxLen"], apart := false, laid := [("unicode/utf8.acceptRanges", laid_unicode_utf8_acceptRanges), ("unicode/utf8.first", laid_unicode_utf8_first)] }
def SelectorTextsSaid : Prop := selectorTextsRow.holds Tryd.pinned (OpenSpec.ofChange selectorTextsSpec)

/-- ITS FALSE NEIGHBOUR: 'it returns false'. Refute it at one input. -/
def selectorTextsWrong : ChangeSpec := { name := "selectorTexts", fn := fun _ => fun
  | [d1, d2] => { results := [.lit (.bool false)], args := [d1, d2] }
  | _ => none }
def SelectorTextsWrongFalsely : Prop := selectorTextsRow.holds Tryd.pinned (OpenSpec.ofChange selectorTextsWrong)

/-- 'platbooklaw13.SelectorMore': WHATEVER THE INPUT: true; the input reads as it did. -/
def selectorMoreSpec : ChangeSpec := { name := "selectorMore", fn := fun _ => fun
  | [d1, d2, d3] => { results := [.lit (.bool true)], args := [d1, d2, d3] }
  | _ => none }
def selectorMoreRow : OpenClaim := { program := "ytjbaeojagkkbgaadoor", sum := "68cb1c12ee8041d0f33298540a3fa14aac468d5a944f8738a523e5b49bb64990", func := "platbook/platbooklaw13.SelectorMore", spec := "selectorMore", inPlace := ["internal/bytealg.CountString", "internal/bytealg.IndexByteString", "internal/bytealg.IndexString", "internal/abi.NoEscape", "internal/bytealg.MakeNoZero"], unfollowed := true, recurses := true, named := ["unicode/utf8.first", "unicode/utf8.acceptRanges", "internal/bytealg.MaxLen"], apart := false, laid := [("unicode/utf8.acceptRanges", laid_unicode_utf8_acceptRanges), ("unicode/utf8.first", laid_unicode_utf8_first)] }
def SelectorMoreSaid : Prop := selectorMoreRow.holds Tryd.pinned (OpenSpec.ofChange selectorMoreSpec)

/-- ITS FALSE NEIGHBOUR: 'it returns false'. Refute it at one input. -/
def selectorMoreWrong : ChangeSpec := { name := "selectorMore", fn := fun _ => fun
  | [d1, d2, d3] => { results := [.lit (.bool false)], args := [d1, d2, d3] }
  | _ => none }
def SelectorMoreWrongFalsely : Prop := selectorMoreRow.holds Tryd.pinned (OpenSpec.ofChange selectorMoreWrong)

/-- 'platbooklaw13.SelectorFits': WHATEVER THE INPUT: true; the input reads as it did. -/
def selectorFitsSpec : ChangeSpec := { name := "selectorFits", fn := fun _ => fun
  | [d1, d2, d3] => { results := [.lit (.bool true)], args := [d1, d2, d3] }
  | _ => none }
def selectorFitsRow : OpenClaim := { program := "ytjbaeojagkkbgaadoor", sum := "68cb1c12ee8041d0f33298540a3fa14aac468d5a944f8738a523e5b49bb64990", func := "platbook/platbooklaw13.SelectorFits", spec := "selectorFits", inPlace := ["internal/bytealg.CountString", "internal/bytealg.IndexByteString", "internal/bytealg.IndexString", "internal/abi.NoEscape", "internal/bytealg.MakeNoZero"], unfollowed := true, recurses := true, named := ["unicode/utf8.first", "unicode/utf8.acceptRanges", "internal/bytealg.MaxLen"], apart := false, laid := [("unicode/utf8.acceptRanges", laid_unicode_utf8_acceptRanges), ("unicode/utf8.first", laid_unicode_utf8_first)] }
def SelectorFitsSaid : Prop := selectorFitsRow.holds Tryd.pinned (OpenSpec.ofChange selectorFitsSpec)

/-- ITS FALSE NEIGHBOUR: 'it returns false'. Refute it at one input. -/
def selectorFitsWrong : ChangeSpec := { name := "selectorFits", fn := fun _ => fun
  | [d1, d2, d3] => { results := [.lit (.bool false)], args := [d1, d2, d3] }
  | _ => none }
def SelectorFitsWrongFalsely : Prop := selectorFitsRow.holds Tryd.pinned (OpenSpec.ofChange selectorFitsWrong)

/- THE SECOND FORM. 'bulk': how many values and letters a reading holds, each counted each time it is reached (what is shared counts as often as it is met; a slice's spare places count too). A statement '..UptoSaid' is the law's where the arguments, and the package variables that the reading takes, are together of bulk at most 1048576: NARROWER than '..Said'. Prove '..Said' where nothing that the law and all that it calls make is longer than what came in: it says more and counts as full. Else prove '..UptoSaid'. A law counts once. -/
mutual
def uptoBulk {H : Type} : DataW H → Nat
  | .lit (.string bytes) => bytes.length + 1
  | .lit _ => 1
  | .nil => 1
  | .ptr d => uptoBulk d + 1
  | .slice elems spare => uptoBulkAll elems + uptoBulkAll spare + 1
  | .agg parts => uptoBulkAll parts + 1
  | .iface _ d => uptoBulk d + 1
  | .map entries => uptoBulkEntries entries + 1
  | .held _ => 1
def uptoBulkAll {H : Type} : List (DataW H) → Nat
  | [] => 0
  | d :: r => uptoBulk d + uptoBulkAll r
def uptoBulkEntries {H : Type} : List (Lit × DataW H) → Nat
  | [] => 0
  | x :: r => uptoBulkEntry x + uptoBulkEntries r
def uptoBulkEntry {H : Type} : Lit × DataW H → Nat
  | (.string bytes, d) => bytes.length + uptoBulk d + 1
  | (_, d) => uptoBulk d + 1
 end
def uptoSmall : (H : Type) → List (DataW H) → Bool := fun _ ds => decide (uptoBulkAll ds ≤ 1048576)
def OpenSpec.upto (s : _root_.Go.ChangeSpec) : _root_.Go.OpenSpec := { _root_.Go.OpenSpec.ofChange s with cond := some uptoSmall }

/-- 'platbooklaw12.LabelNames', WHERE WHAT IT READS IS OF BULK AT MOST 1048576: true; the input reads as it did. -/
def labelNamesUptoRow : OpenClaim := { program := "ytjbaeojagkkbgaadoor", sum := "68cb1c12ee8041d0f33298540a3fa14aac468d5a944f8738a523e5b49bb64990", func := "platbook/platbooklaw12.LabelNames", spec := "labelNames", inPlace := ["internal/bytealg.CountString", "internal/bytealg.IndexByteString", "internal/bytealg.IndexString"], unfollowed := true, recurses := true, named := ["unicode/utf8.first", "unicode/utf8.acceptRanges", "internal/bytealg.MaxLen"], apart := false, laid := [("unicode/utf8.acceptRanges", laid_unicode_utf8_acceptRanges), ("unicode/utf8.first", laid_unicode_utf8_first)], narrowed := true }
def LabelNamesUptoSaid : Prop := labelNamesUptoRow.holds Tryd.pinned (OpenSpec.upto labelNamesSpec)

/-- 'platbooklaw12.LabelTexts', WHERE WHAT IT READS IS OF BULK AT MOST 1048576: true; the input reads as it did. -/
def labelTextsUptoRow : OpenClaim := { program := "ytjbaeojagkkbgaadoor", sum := "68cb1c12ee8041d0f33298540a3fa14aac468d5a944f8738a523e5b49bb64990", func := "platbook/platbooklaw12.LabelTexts", spec := "labelTexts", inPlace := ["internal/bytealg.CountString", "internal/bytealg.IndexByteString", "internal/bytealg.IndexString", "internal/abi.NoEscape", "internal/bytealg.MakeNoZero"], unfollowed := true, recurses := true, named := ["unicode/utf8.first", "unicode/utf8.acceptRanges", "internal/bytealg.MaxLen"], apart := false, laid := [("unicode/utf8.acceptRanges", laid_unicode_utf8_acceptRanges), ("unicode/utf8.first", laid_unicode_utf8_first)], narrowed := true }
def LabelTextsUptoSaid : Prop := labelTextsUptoRow.holds Tryd.pinned (OpenSpec.upto labelTextsSpec)

/-- 'platbooklaw12.LabelSets', WHERE WHAT IT READS IS OF BULK AT MOST 1048576: true; the input reads as it did. -/
def labelSetsUptoRow : OpenClaim := { program := "ytjbaeojagkkbgaadoor", sum := "68cb1c12ee8041d0f33298540a3fa14aac468d5a944f8738a523e5b49bb64990", func := "platbook/platbooklaw12.LabelSets", spec := "labelSets", inPlace := ["internal/bytealg.CountString", "internal/bytealg.IndexByteString", "internal/bytealg.IndexString", "internal/bytealg.abigen_runtime_cmpstring", "slices.overlaps[platbook/api.Pair]"], unfollowed := true, recurses := true, named := ["unicode/utf8.first", "unicode/utf8.acceptRanges", "internal/bytealg.MaxLen"], apart := false, laid := [("unicode/utf8.acceptRanges", laid_unicode_utf8_acceptRanges), ("unicode/utf8.first", laid_unicode_utf8_first)], narrowed := true }
def LabelSetsUptoSaid : Prop := labelSetsUptoRow.holds Tryd.pinned (OpenSpec.upto labelSetsSpec)

/-- 'platbooklaw13.SelectorTexts', WHERE WHAT IT READS IS OF BULK AT MOST 1048576: true; the input reads as it did. -/
def selectorTextsUptoRow : OpenClaim := { program := "ytjbaeojagkkbgaadoor", sum := "68cb1c12ee8041d0f33298540a3fa14aac468d5a944f8738a523e5b49bb64990", func := "platbook/platbooklaw13.SelectorTexts", spec := "selectorTexts", inPlace := ["internal/bytealg.CountString", "internal/bytealg.IndexByteString", "internal/bytealg.IndexString", "internal/abi.NoEscape", "internal/bytealg.MakeNoZero"], unfollowed := true, recurses := true, named := ["unicode/utf8.first", "unicode/utf8.acceptRanges", "internal/bytealg.MaxLen"], apart := false, laid := [("unicode/utf8.acceptRanges", laid_unicode_utf8_acceptRanges), ("unicode/utf8.first", laid_unicode_utf8_first)], narrowed := true }
def SelectorTextsUptoSaid : Prop := selectorTextsUptoRow.holds Tryd.pinned (OpenSpec.upto selectorTextsSpec)

/-- 'platbooklaw13.SelectorMore', WHERE WHAT IT READS IS OF BULK AT MOST 1048576: true; the input reads as it did. -/
def selectorMoreUptoRow : OpenClaim := { program := "ytjbaeojagkkbgaadoor", sum := "68cb1c12ee8041d0f33298540a3fa14aac468d5a944f8738a523e5b49bb64990", func := "platbook/platbooklaw13.SelectorMore", spec := "selectorMore", inPlace := ["internal/bytealg.CountString", "internal/bytealg.IndexByteString", "internal/bytealg.IndexString", "internal/abi.NoEscape", "internal/bytealg.MakeNoZero"], unfollowed := true, recurses := true, named := ["unicode/utf8.first", "unicode/utf8.acceptRanges", "internal/bytealg.MaxLen"], apart := false, laid := [("unicode/utf8.acceptRanges", laid_unicode_utf8_acceptRanges), ("unicode/utf8.first", laid_unicode_utf8_first)], narrowed := true }
def SelectorMoreUptoSaid : Prop := selectorMoreUptoRow.holds Tryd.pinned (OpenSpec.upto selectorMoreSpec)

/-- 'platbooklaw13.SelectorFits', WHERE WHAT IT READS IS OF BULK AT MOST 1048576: true; the input reads as it did. -/
def selectorFitsUptoRow : OpenClaim := { program := "ytjbaeojagkkbgaadoor", sum := "68cb1c12ee8041d0f33298540a3fa14aac468d5a944f8738a523e5b49bb64990", func := "platbook/platbooklaw13.SelectorFits", spec := "selectorFits", inPlace := ["internal/bytealg.CountString", "internal/bytealg.IndexByteString", "internal/bytealg.IndexString", "internal/abi.NoEscape", "internal/bytealg.MakeNoZero"], unfollowed := true, recurses := true, named := ["unicode/utf8.first", "unicode/utf8.acceptRanges", "internal/bytealg.MaxLen"], apart := false, laid := [("unicode/utf8.acceptRanges", laid_unicode_utf8_acceptRanges), ("unicode/utf8.first", laid_unicode_utf8_first)], narrowed := true }
def SelectorFitsUptoSaid : Prop := selectorFitsUptoRow.holds Tryd.pinned (OpenSpec.upto selectorFitsSpec)

end Rows
end Go.Proofs.YtjbaeojagkkbgaaDoor
