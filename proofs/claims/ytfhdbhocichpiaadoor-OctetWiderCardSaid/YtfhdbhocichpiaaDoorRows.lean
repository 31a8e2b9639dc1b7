/-
  NARROWER THAN 'FOR EVERY INPUT', by the rows' own cells (each row's printed sentence says how): OctetParts: laid · OctetJoins: laid · OctetTexts: laid · OctetOrder: laid · OctetWider: laid · OctetClasses: laid · OctetOne: laid.
  DERIVED. THE GIVEN ROWS OF THIS SEAT. 7 by the template 'for every input the law returns true; each argument reads behind the call as it read before'; 0 by the template 'total and deterministic' (their statements: YtfhdbhocichpiaaDoorTotals.lean).
  GIVEN WITH THE SEED: the statements are not yours to turn. If you find one false, say at which input.
  Laid BY PROGRAM, IN A SANDBOX (cutbox-rows.mjs): the forced cells as the released guide's own fill.sh prints them over the translation c8f7417d72c32d6c… (all of the seat's roots in one cut). By AI agents, Wed Nov 11 2026. No macro, syntax, notation, axiom, sorry.
-/
import Derived.Test.YtfhdbhocichpiaaDoorChecked
import GoSem.PinnedTables
import GoSem.Claim
import GoSem.ClaimJoined
import GoSem.ClaimMapViews
import Derived.JoinedTies
import Derived.KernelRfl
namespace Go.Proofs.YtfhdbhocichpiaaDoor
/- THE CELL 'sum', in the pinned program and in every row, IS THE sha256 OF THE DUMP (.gsa) THAT YtfhdbhocichpiaaDoorProg.lean LOADS. Nothing in Lean hashes anything: it is a label: what it is worth is what the hold of that sum in a sandbox is worth. -/
noncomputable def Tryd.pinned : Pinned := { name := "ytfhdbhocichpiaadoor", sum := "c8f7417d72c32d6cb7d208ecbdcef2b5173fe116b5b411ef92ae6383c29f0a54", checked := Tryd.checked }
namespace Rows
def none {H : Type} : Left H := { results := [], args := [] }

/- WHAT THE LISTED PACKAGE-LEVEL VARIABLES READ AS WHEN THE CALL BEGINS. Each datum BY PROGRAM (the guide's laid-datum.mjs) off the statement by which the dump's own 'gosem.cut.vars' lays the variable. In a bare row this is a premise. The card (YtfhdbhocichpiaaDoorCards.lean) ties it to the program's text. -/
def laid_unicode_utf8_acceptRanges {H : Type} : DataW H := .agg [.agg [.lit (.int .u8 128), .lit (.int .u8 191)], .agg [.lit (.int .u8 160), .lit (.int .u8 191)], .agg [.lit (.int .u8 128), .lit (.int .u8 159)], .agg [.lit (.int .u8 144), .lit (.int .u8 191)], .agg [.lit (.int .u8 128), .lit (.int .u8 143)], .agg [.lit (.int .u8 0), .lit (.int .u8 0)], .agg [.lit (.int .u8 0), .lit (.int .u8 0)], .agg [.lit (.int .u8 0), .lit (.int .u8 0)], .agg [.lit (.int .u8 0), .lit (.int .u8 0)], .agg [.lit (.int .u8 0), .lit (.int .u8 0)], .agg [.lit (.int .u8 0), .lit (.int .u8 0)], .agg [.lit (.int .u8 0), .lit (.int .u8 0)], .agg [.lit (.int .u8 0), .lit (.int .u8 0)], .agg [.lit (.int .u8 0), .lit (.int .u8 0)], .agg [.lit (.int .u8 0), .lit (.int .u8 0)], .agg [.lit (.int .u8 0), .lit (.int .u8 0)]]
/-- One of Go's own tables, pinned by name: the form's constant. -/
def laid_unicode_utf8_first : DataW Unit := Go.Pinned.utf8First

/-- 'graftwoodlaw01.OctetParts': WHATEVER THE INPUT: true; the input reads as it did. -/
def octetPartsSpec : ChangeSpec := { name := "octetParts", fn := fun _ => fun
  | [d1, d2] => { results := [.lit (.bool true)], args := [d1, d2] }
  | _ => none }
def octetPartsRow : OpenClaim := { program := "ytfhdbhocichpiaadoor", sum := "c8f7417d72c32d6cb7d208ecbdcef2b5173fe116b5b411ef92ae6383c29f0a54", func := "graftwood/graftwoodlaw01.OctetParts", spec := "octetParts", inPlace := ["internal/bytealg.CountString", "internal/bytealg.IndexByteString", "internal/bytealg.IndexString"], named := ["unicode/utf8.first", "unicode/utf8.acceptRanges", "internal/bytealg.MaxLen"], apart := false, laid := [("unicode/utf8.acceptRanges", laid_unicode_utf8_acceptRanges), ("unicode/utf8.first", laid_unicode_utf8_first)] }
def OctetPartsSaid : Prop := octetPartsRow.holds Tryd.pinned (OpenSpec.ofChange octetPartsSpec)

/-- ITS FALSE NEIGHBOUR: 'it returns false'. Refute it at one input. -/
def octetPartsWrong : ChangeSpec := { name := "octetParts", fn := fun _ => fun
  | [d1, d2] => { results := [.lit (.bool false)], args := [d1, d2] }
  | _ => none }
def OctetPartsWrongFalsely : Prop := octetPartsRow.holds Tryd.pinned (OpenSpec.ofChange octetPartsWrong)

/-- 'graftwoodlaw01.OctetJoins': WHATEVER THE INPUT: true; the input reads as it did. -/
def octetJoinsSpec : ChangeSpec := { name := "octetJoins", fn := fun _ => fun
  | [d1, d2, d3] => { results := [.lit (.bool true)], args := [d1, d2, d3] }
  | _ => none }
def octetJoinsRow : OpenClaim := { program := "ytfhdbhocichpiaadoor", sum := "c8f7417d72c32d6cb7d208ecbdcef2b5173fe116b5b411ef92ae6383c29f0a54", func := "graftwood/graftwoodlaw01.OctetJoins", spec := "octetJoins", inPlace := ["internal/bytealg.CountString", "internal/bytealg.IndexByteString", "internal/bytealg.IndexString"], named := ["unicode/utf8.first", "unicode/utf8.acceptRanges", "internal/bytealg.MaxLen"], apart := false, laid := [("unicode/utf8.acceptRanges", laid_unicode_utf8_acceptRanges), ("unicode/utf8.first", laid_unicode_utf8_first)] }
def OctetJoinsSaid : Prop := octetJoinsRow.holds Tryd.pinned (OpenSpec.ofChange octetJoinsSpec)

/-- ITS FALSE NEIGHBOUR: 'it returns false'. Refute it at one input. -/
def octetJoinsWrong : ChangeSpec := { name := "octetJoins", fn := fun _ => fun
  | [d1, d2, d3] => { results := [.lit (.bool false)], args := [d1, d2, d3] }
  | _ => none }
def OctetJoinsWrongFalsely : Prop := octetJoinsRow.holds Tryd.pinned (OpenSpec.ofChange octetJoinsWrong)

/-- 'graftwoodlaw01.OctetTexts': WHATEVER THE INPUT: true; the input reads as it did. -/
def octetTextsSpec : ChangeSpec := { name := "octetTexts", fn := fun _ => fun
  | [d1, d2, d3] => { results := [.lit (.bool true)], args := [d1, d2, d3] }
  | _ => none }
def octetTextsRow : OpenClaim := { program := "ytfhdbhocichpiaadoor", sum := "c8f7417d72c32d6cb7d208ecbdcef2b5173fe116b5b411ef92ae6383c29f0a54", func := "graftwood/graftwoodlaw01.OctetTexts", spec := "octetTexts", inPlace := ["internal/bytealg.CountString", "internal/bytealg.IndexByteString", "internal/bytealg.IndexString"], named := ["unicode/utf8.first", "unicode/utf8.acceptRanges", "internal/bytealg.MaxLen"], apart := false, laid := [("unicode/utf8.acceptRanges", laid_unicode_utf8_acceptRanges), ("unicode/utf8.first", laid_unicode_utf8_first)] }
def OctetTextsSaid : Prop := octetTextsRow.holds Tryd.pinned (OpenSpec.ofChange octetTextsSpec)

/-- ITS FALSE NEIGHBOUR: 'it returns false'. Refute it at one input. -/
def octetTextsWrong : ChangeSpec := { name := "octetTexts", fn := fun _ => fun
  | [d1, d2, d3] => { results := [.lit (.bool false)], args := [d1, d2, d3] }
  | _ => none }
def OctetTextsWrongFalsely : Prop := octetTextsRow.holds Tryd.pinned (OpenSpec.ofChange octetTextsWrong)

/-- 'graftwoodlaw01.OctetOrder': WHATEVER THE INPUT: true; the input reads as it did. -/
def octetOrderSpec : ChangeSpec := { name := "octetOrder", fn := fun _ => fun
  | [d1, d2, d3] => { results := [.lit (.bool true)], args := [d1, d2, d3] }
  | _ => none }
def octetOrderRow : OpenClaim := { program := "ytfhdbhocichpiaadoor", sum := "c8f7417d72c32d6cb7d208ecbdcef2b5173fe116b5b411ef92ae6383c29f0a54", func := "graftwood/graftwoodlaw01.OctetOrder", spec := "octetOrder", inPlace := ["internal/bytealg.CountString", "internal/bytealg.IndexByteString", "internal/bytealg.IndexString"], named := ["unicode/utf8.first", "unicode/utf8.acceptRanges", "internal/bytealg.MaxLen"], apart := false, laid := [("unicode/utf8.acceptRanges", laid_unicode_utf8_acceptRanges), ("unicode/utf8.first", laid_unicode_utf8_first)] }
def OctetOrderSaid : Prop := octetOrderRow.holds Tryd.pinned (OpenSpec.ofChange octetOrderSpec)

/-- ITS FALSE NEIGHBOUR: 'it returns false'. Refute it at one input. -/
def octetOrderWrong : ChangeSpec := { name := "octetOrder", fn := fun _ => fun
  | [d1, d2, d3] => { results := [.lit (.bool false)], args := [d1, d2, d3] }
  | _ => none }
def OctetOrderWrongFalsely : Prop := octetOrderRow.holds Tryd.pinned (OpenSpec.ofChange octetOrderWrong)

/-- 'graftwoodlaw01.OctetWider': WHATEVER THE INPUT: true; the input reads as it did. -/
def octetWiderSpec : ChangeSpec := { name := "octetWider", fn := fun _ => fun
  | [d1, d2, d3] => { results := [.lit (.bool true)], args := [d1, d2, d3] }
  | _ => none }
def octetWiderRow : OpenClaim := { program := "ytfhdbhocichpiaadoor", sum := "c8f7417d72c32d6cb7d208ecbdcef2b5173fe116b5b411ef92ae6383c29f0a54", func := "graftwood/graftwoodlaw01.OctetWider", spec := "octetWider", inPlace := ["internal/bytealg.CountString", "internal/bytealg.IndexByteString", "internal/bytealg.IndexString"], named := ["unicode/utf8.first", "unicode/utf8.acceptRanges", "internal/bytealg.MaxLen"], apart := false, laid := [("unicode/utf8.acceptRanges", laid_unicode_utf8_acceptRanges), ("unicode/utf8.first", laid_unicode_utf8_first)] }
def OctetWiderSaid : Prop := octetWiderRow.holds Tryd.pinned (OpenSpec.ofChange octetWiderSpec)

/-- ITS FALSE NEIGHBOUR: 'it returns false'. Refute it at one input. -/
def octetWiderWrong : ChangeSpec := { name := "octetWider", fn := fun _ => fun
  | [d1, d2, d3] => { results := [.lit (.bool false)], args := [d1, d2, d3] }
  | _ => none }
def OctetWiderWrongFalsely : Prop := octetWiderRow.holds Tryd.pinned (OpenSpec.ofChange octetWiderWrong)

/-- 'graftwoodlaw01.OctetClasses': WHATEVER THE INPUT: true; the input reads as it did. -/
def octetClassesSpec : ChangeSpec := { name := "octetClasses", fn := fun _ => fun
  | [d1, d2, d3] => { results := [.lit (.bool true)], args := [d1, d2, d3] }
  | _ => none }
def octetClassesRow : OpenClaim := { program := "ytfhdbhocichpiaadoor", sum := "c8f7417d72c32d6cb7d208ecbdcef2b5173fe116b5b411ef92ae6383c29f0a54", func := "graftwood/graftwoodlaw01.OctetClasses", spec := "octetClasses", inPlace := ["internal/bytealg.CountString", "internal/bytealg.IndexByteString", "internal/bytealg.IndexString"], named := ["unicode/utf8.first", "unicode/utf8.acceptRanges", "internal/bytealg.MaxLen"], apart := false, laid := [("unicode/utf8.acceptRanges", laid_unicode_utf8_acceptRanges), ("unicode/utf8.first", laid_unicode_utf8_first)] }
def OctetClassesSaid : Prop := octetClassesRow.holds Tryd.pinned (OpenSpec.ofChange octetClassesSpec)

/-- ITS FALSE NEIGHBOUR: 'it returns false'. Refute it at one input. -/
def octetClassesWrong : ChangeSpec := { name := "octetClasses", fn := fun _ => fun
  | [d1, d2, d3] => { results := [.lit (.bool false)], args := [d1, d2, d3] }
  | _ => none }
def OctetClassesWrongFalsely : Prop := octetClassesRow.holds Tryd.pinned (OpenSpec.ofChange octetClassesWrong)

/-- 'graftwoodlaw01.OctetOne': WHATEVER THE INPUT: true; the input reads as it did. -/
def octetOneSpec : ChangeSpec := { name := "octetOne", fn := fun _ => fun
  | [d1, d2] => { results := [.lit (.bool true)], args := [d1, d2] }
  | _ => none }
def octetOneRow : OpenClaim := { program := "ytfhdbhocichpiaadoor", sum := "c8f7417d72c32d6cb7d208ecbdcef2b5173fe116b5b411ef92ae6383c29f0a54", func := "graftwood/graftwoodlaw01.OctetOne", spec := "octetOne", inPlace := ["internal/bytealg.CountString", "internal/bytealg.IndexByteString", "internal/bytealg.IndexString"], named := ["unicode/utf8.first", "unicode/utf8.acceptRanges", "internal/bytealg.MaxLen"], apart := false, laid := [("unicode/utf8.acceptRanges", laid_unicode_utf8_acceptRanges), ("unicode/utf8.first", laid_unicode_utf8_first)] }
def OctetOneSaid : Prop := octetOneRow.holds Tryd.pinned (OpenSpec.ofChange octetOneSpec)

/-- ITS FALSE NEIGHBOUR: 'it returns false'. Refute it at one input. -/
def octetOneWrong : ChangeSpec := { name := "octetOne", fn := fun _ => fun
  | [d1, d2] => { results := [.lit (.bool false)], args := [d1, d2] }
  | _ => none }
def OctetOneWrongFalsely : Prop := octetOneRow.holds Tryd.pinned (OpenSpec.ofChange octetOneWrong)

/- THE SECOND FORM. 'bulk': how many values and letters a reading holds, each counted each time it is reached (what is shared counts as often as it is met; a slice's spare places count too). A statement '..UptoSaid' is the law's where the arguments, and the package variables that the reading takes, are together of bulk at most 1048576: NARROWER than '..Said'. Prove '..Said' where nothing that the law and all that it calls make is longer than what came in: it says more and counts as full. Else prove '..UptoSaid'. A law counts once. -/
mutual
def uptoBulk {H : Type} : DataW H → Nat
  | .lit (.string bytes) => bytes.length + 1
  | .lit _ => 1
  | .nil => 1
  | .ptr d => uptoBulk d + 1
  | .slice elems spare => uptoBulkAll elems + uptoBulkAll spare + 1
  | .agg parts => uptoBulkAll parts + 1
  | .iface _ d => uptoBulk d + 1
  | .map entries => uptoBulkEntries entries + 1
  | .held _ => 1
def uptoBulkAll {H : Type} : List (DataW H) → Nat
  | [] => 0
  | d :: r => uptoBulk d + uptoBulkAll r
def uptoBulkEntries {H : Type} : List (Lit × DataW H) → Nat
  | [] => 0
  | x :: r => uptoBulkEntry x + uptoBulkEntries r
def uptoBulkEntry {H : Type} : Lit × DataW H → Nat
  | (.string bytes, d) => bytes.length + uptoBulk d + 1
  | (_, d) => uptoBulk d + 1
 end
def uptoSmall : (H : Type) → List (DataW H) → Bool := fun _ ds => decide (uptoBulkAll ds ≤ 1048576)
def OpenSpec.upto (s : _root_.Go.ChangeSpec) : _root_.Go.OpenSpec := { _root_.Go.OpenSpec.ofChange s with cond := some uptoSmall }

/-- 'graftwoodlaw01.OctetParts', WHERE WHAT IT READS IS OF BULK AT MOST 1048576: true; the input reads as it did. -/
def octetPartsUptoRow : OpenClaim := { program := "ytfhdbhocichpiaadoor", sum := "c8f7417d72c32d6cb7d208ecbdcef2b5173fe116b5b411ef92ae6383c29f0a54", func := "graftwood/graftwoodlaw01.OctetParts", spec := "octetParts", inPlace := ["internal/bytealg.CountString", "internal/bytealg.IndexByteString", "internal/bytealg.IndexString"], named := ["unicode/utf8.first", "unicode/utf8.acceptRanges", "internal/bytealg.MaxLen"], apart := false, laid := [("unicode/utf8.acceptRanges", laid_unicode_utf8_acceptRanges), ("unicode/utf8.first", laid_unicode_utf8_first)], narrowed := true }
def OctetPartsUptoSaid : Prop := octetPartsUptoRow.holds Tryd.pinned (OpenSpec.upto octetPartsSpec)

/-- 'graftwoodlaw01.OctetJoins', WHERE WHAT IT READS IS OF BULK AT MOST 1048576: true; the input reads as it did. -/
def octetJoinsUptoRow : OpenClaim := { program := "ytfhdbhocichpiaadoor", sum := "c8f7417d72c32d6cb7d208ecbdcef2b5173fe116b5b411ef92ae6383c29f0a54", func := "graftwood/graftwoodlaw01.OctetJoins", spec := "octetJoins", inPlace := ["internal/bytealg.CountString", "internal/bytealg.IndexByteString", "internal/bytealg.IndexString"], named := ["unicode/utf8.first", "unicode/utf8.acceptRanges", "internal/bytealg.MaxLen"], apart := false, laid := [("unicode/utf8.acceptRanges", laid_unicode_utf8_acceptRanges), ("unicode/utf8.first", laid_unicode_utf8_first)], narrowed := true }
def OctetJoinsUptoSaid : Prop := octetJoinsUptoRow.holds Tryd.pinned (OpenSpec.upto octetJoinsSpec)

/-- 'graftwoodlaw01.OctetTexts', WHERE WHAT IT READS IS OF BULK AT MOST 1048576: true; the input reads as it did. -/
def octetTextsUptoRow : OpenClaim := { program := "ytfhdbhocichpiaadoor", sum := "c8f7417d72c32d6cb7d208ecbdcef2b5173fe116b5b411ef92ae6383c29f0a54", func := "graftwood/graftwoodlaw01.OctetTexts", spec := "octetTexts", inPlace := ["internal/bytealg.CountString", "internal/bytealg.IndexByteString", "internal/bytealg.IndexString"], named := ["unicode/utf8.first", "unicode/utf8.acceptRanges", "internal/bytealg.MaxLen"], apart := false, laid := [("unicode/utf8.acceptRanges", laid_unicode_utf8_acceptRanges), ("unicode/utf8.first", laid_unicode_utf8_first)], narrowed := true }
def OctetTextsUptoSaid : Prop := octetTextsUptoRow.holds Tryd.pinned (OpenSpec.upto octetTextsSpec)

/-- 'graftwoodlaw01.OctetOrder', WHERE WHAT IT READS IS OF BULK AT MOST 1048576: true; the input reads as it did. -/
def octetOrderUptoRow : OpenClaim := { program := "ytfhdbhocichpiaadoor", sum := "c8f7417d72c32d6cb7d208ecbdcef2b5173fe116b5b411ef92ae6383c29f0a54", func := "graftwood/graftwoodlaw01.OctetOrder", spec := "octetOrder", inPlace := ["internal/bytealg.CountString", "internal/bytealg.IndexByteString", "internal/bytealg.IndexString"], named := ["unicode/utf8.first", "unicode/utf8.acceptRanges", "internal/bytealg.MaxLen"], apart := false, laid := [("unicode/utf8.acceptRanges", laid_unicode_utf8_acceptRanges), ("unicode/utf8.first", laid_unicode_utf8_first)], narrowed := true }
def OctetOrderUptoSaid : Prop := octetOrderUptoRow.holds Tryd.pinned (OpenSpec.upto octetOrderSpec)

/-- 'graftwoodlaw01.OctetWider', WHERE WHAT IT READS IS OF BULK AT MOST 1048576: true; the input reads as it did. -/
def octetWiderUptoRow : OpenClaim := { program := "ytfhdbhocichpiaadoor", sum := "c8f7417d72c32d6cb7d208ecbdcef2b5173fe116b5b411ef92ae6383c29f0a54", func := "graftwood/graftwoodlaw01.OctetWider", spec := "octetWider", inPlace := ["internal/bytealg.CountString", "internal/bytealg.IndexByteString", "internal/bytealg.IndexString"], named := ["unicode/utf8.first", "unicode/utf8.acceptRanges", "internal/bytealg.MaxLen"], apart := false, laid := [("unicode/utf8.acceptRanges", laid_unicode_utf8_acceptRanges), ("unicode/utf8.first", laid_unicode_utf8_first)], narrowed := true }
def OctetWiderUptoSaid : Prop := octetWiderUptoRow.holds Tryd.pinned (OpenSpec.upto octetWiderSpec)

/-- 'graftwoodlaw01.OctetClasses', WHERE WHAT IT READS IS OF BULK AT MOST 1048576: true; the input reads as it did. -/
def octetClassesUptoRow : OpenClaim := { program := "ytfhdbhocichpiaadoor", sum := "c8f7417d72c32d6cb7d208ecbdcef2b5173fe116b5b411ef92ae6383c29f0a54", func := "graftwood/graftwoodlaw01.OctetClasses", spec := "octetClasses", inPlace := ["internal/bytealg.CountString", "internal/bytealg.IndexByteString", "internal/bytealg.IndexString"], named := ["unicode/utf8.first", "unicode/utf8.acceptRanges", "internal/bytealg.MaxLen"], apart := false, laid := [("unicode/utf8.acceptRanges", laid_unicode_utf8_acceptRanges), ("unicode/utf8.first", laid_unicode_utf8_first)], narrowed := true }
def OctetClassesUptoSaid : Prop := octetClassesUptoRow.holds Tryd.pinned (OpenSpec.upto octetClassesSpec)

/-- 'graftwoodlaw01.OctetOne', WHERE WHAT IT READS IS OF BULK AT MOST 1048576: true; the input reads as it did. -/
def octetOneUptoRow : OpenClaim := { program := "ytfhdbhocichpiaadoor", sum := "c8f7417d72c32d6cb7d208ecbdcef2b5173fe116b5b411ef92ae6383c29f0a54", func := "graftwood/graftwoodlaw01.OctetOne", spec := "octetOne", inPlace := ["internal/bytealg.CountString", "internal/bytealg.IndexByteString", "internal/bytealg.IndexString"], named := ["unicode/utf8.first", "unicode/utf8.acceptRanges", "internal/bytealg.MaxLen"], apart := false, laid := [("unicode/utf8.acceptRanges", laid_unicode_utf8_acceptRanges), ("unicode/utf8.first", laid_unicode_utf8_first)], narrowed := true }
def OctetOneUptoSaid : Prop := octetOneUptoRow.holds Tryd.pinned (OpenSpec.upto octetOneSpec)

end Rows
end Go.Proofs.YtfhdbhocichpiaaDoor
