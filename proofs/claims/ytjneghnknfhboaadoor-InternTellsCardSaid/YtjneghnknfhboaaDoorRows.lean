/-
  NARROWER THAN 'FOR EVERY INPUT', by the rows' own cells (each row's printed sentence says how): InternAll: laid · InternDense: laid · InternBack: laid · InternTells: laid · InternStays: laid.
  DERIVED. THE GIVEN ROWS OF THIS SEAT. 5 by the template 'for every input the law returns true; each argument reads behind the call as it read before'; 0 by the template 'total and deterministic' (their statements: YtjneghnknfhboaaDoorTotals.lean).
  GIVEN WITH THE SEED: the statements are not yours to turn. If you find one false, say at which input.
  Laid BY PROGRAM, IN A SANDBOX (cutbox-rows.mjs): the forced cells as the released guide's own fill.sh prints them over the translation 58555025be9e22ce… (all of the seat's roots in one cut). By AI agents, Wed Nov 11 2026. No macro, syntax, notation, axiom, sorry.
-/
import Derived.Test.YtjneghnknfhboaaDoorChecked
import GoSem.PinnedTables
import GoSem.Claim
import GoSem.ClaimJoined
import GoSem.ClaimMapViews
import Derived.JoinedTies
import Derived.KernelRfl
namespace Go.Proofs.YtjneghnknfhboaaDoor
/- THE CELL 'sum', in the pinned program and in every row, IS THE sha256 OF THE DUMP (.gsa) THAT YtjneghnknfhboaaDoorProg.lean LOADS. Nothing in Lean hashes anything: it is a label: what it is worth is what the hold of that sum in a sandbox is worth. -/
noncomputable def Tryd.pinned : Pinned := { name := "ytjneghnknfhboaadoor", sum := "58555025be9e22ce0a120b1964289abd9cc8e18d8486fe44b486134e5ac45ae9", checked := Tryd.checked }
namespace Rows
def none {H : Type} : Left H := { results := [], args := [] }

/- WHAT THE LISTED PACKAGE-LEVEL VARIABLES READ AS WHEN THE CALL BEGINS. Each datum BY PROGRAM (the guide's laid-datum.mjs) off the statement by which the dump's own 'gosem.cut.vars' lays the variable. In a bare row this is a premise. The card (YtjneghnknfhboaaDoorCards.lean) ties it to the program's text. -/
def laid_unicode_utf8_acceptRanges {H : Type} : DataW H := .agg [.agg [.lit (.int .u8 128), .lit (.int .u8 191)], .agg [.lit (.int .u8 160), .lit (.int .u8 191)], .agg [.lit (.int .u8 128), .lit (.int .u8 159)], .agg [.lit (.int .u8 144), .lit (.int .u8 191)], .agg [.lit (.int .u8 128), .lit (.int .u8 143)], .agg [.lit (.int .u8 0), .lit (.int .u8 0)], .agg [.lit (.int .u8 0), .lit (.int .u8 0)], .agg [.lit (.int .u8 0), .lit (.int .u8 0)], .agg [.lit (.int .u8 0), .lit (.int .u8 0)], .agg [.lit (.int .u8 0), .lit (.int .u8 0)], .agg [.lit (.int .u8 0), .lit (.int .u8 0)], .agg [.lit (.int .u8 0), .lit (.int .u8 0)], .agg [.lit (.int .u8 0), .lit (.int .u8 0)], .agg [.lit (.int .u8 0), .lit (.int .u8 0)], .agg [.lit (.int .u8 0), .lit (.int .u8 0)], .agg [.lit (.int .u8 0), .lit (.int .u8 0)]]
/-- One of Go's own tables, pinned by name: the form's constant. -/
def laid_unicode_utf8_first : DataW Unit := Go.Pinned.utf8First

/-- 'graftwoodlaw10.InternAll': WHATEVER THE INPUT: true; the input reads as it did. -/
def internAllSpec : ChangeSpec := { name := "internAll", fn := fun _ => fun
  | [d1, d2] => { results := [.lit (.bool true)], args := [d1, d2] }
  | _ => none }
def internAllRow : OpenClaim := { program := "ytjneghnknfhboaadoor", sum := "58555025be9e22ce0a120b1964289abd9cc8e18d8486fe44b486134e5ac45ae9", func := "graftwood/graftwoodlaw10.InternAll", spec := "internAll", inPlace := ["internal/bytealg.CountString", "internal/bytealg.IndexByteString", "internal/bytealg.IndexString"], named := ["unicode/utf8.first", "unicode/utf8.acceptRanges", "internal/bytealg.MaxLen"], plainKeys := false, apart := false, laid := [("unicode/utf8.acceptRanges", laid_unicode_utf8_acceptRanges), ("unicode/utf8.first", laid_unicode_utf8_first)] }
def InternAllSaid : Prop := internAllRow.holds Tryd.pinned (OpenSpec.ofChange internAllSpec)

/-- ITS FALSE NEIGHBOUR: 'it returns false'. Refute it at one input. -/
def internAllWrong : ChangeSpec := { name := "internAll", fn := fun _ => fun
  | [d1, d2] => { results := [.lit (.bool false)], args := [d1, d2] }
  | _ => none }
def InternAllWrongFalsely : Prop := internAllRow.holds Tryd.pinned (OpenSpec.ofChange internAllWrong)

/-- 'graftwoodlaw10.InternDense': WHATEVER THE INPUT: true; the input reads as it did. -/
def internDenseSpec : ChangeSpec := { name := "internDense", fn := fun _ => fun
  | [d] => { results := [.lit (.bool true)], args := [d] }
  | _ => none }
def internDenseRow : OpenClaim := { program := "ytjneghnknfhboaadoor", sum := "58555025be9e22ce0a120b1964289abd9cc8e18d8486fe44b486134e5ac45ae9", func := "graftwood/graftwoodlaw10.InternDense", spec := "internDense", inPlace := ["internal/bytealg.CountString", "internal/bytealg.IndexByteString", "internal/bytealg.IndexString"], named := ["unicode/utf8.first", "unicode/utf8.acceptRanges", "internal/bytealg.MaxLen"], plainKeys := false, apart := false, laid := [("unicode/utf8.acceptRanges", laid_unicode_utf8_acceptRanges), ("unicode/utf8.first", laid_unicode_utf8_first)] }
def InternDenseSaid : Prop := internDenseRow.holds Tryd.pinned (OpenSpec.ofChange internDenseSpec)

/-- ITS FALSE NEIGHBOUR: 'it returns false'. Refute it at one input. -/
def internDenseWrong : ChangeSpec := { name := "internDense", fn := fun _ => fun
  | [d] => { results := [.lit (.bool false)], args := [d] }
  | _ => none }
def InternDenseWrongFalsely : Prop := internDenseRow.holds Tryd.pinned (OpenSpec.ofChange internDenseWrong)

/-- 'graftwoodlaw10.InternBack': WHATEVER THE INPUT: true; the input reads as it did. -/
def internBackSpec : ChangeSpec := { name := "internBack", fn := fun _ => fun
  | [d] => { results := [.lit (.bool true)], args := [d] }
  | _ => none }
def internBackRow : OpenClaim := { program := "ytjneghnknfhboaadoor", sum := "58555025be9e22ce0a120b1964289abd9cc8e18d8486fe44b486134e5ac45ae9", func := "graftwood/graftwoodlaw10.InternBack", spec := "internBack", inPlace := ["internal/bytealg.CountString", "internal/bytealg.IndexByteString", "internal/bytealg.IndexString"], named := ["unicode/utf8.first", "unicode/utf8.acceptRanges", "internal/bytealg.MaxLen"], plainKeys := false, apart := false, laid := [("unicode/utf8.acceptRanges", laid_unicode_utf8_acceptRanges), ("unicode/utf8.first", laid_unicode_utf8_first)] }
def InternBackSaid : Prop := internBackRow.holds Tryd.pinned (OpenSpec.ofChange internBackSpec)

/-- ITS FALSE NEIGHBOUR: 'it returns false'. Refute it at one input. -/
def internBackWrong : ChangeSpec := { name := "internBack", fn := fun _ => fun
  | [d] => { results := [.lit (.bool false)], args := [d] }
  | _ => none }
def InternBackWrongFalsely : Prop := internBackRow.holds Tryd.pinned (OpenSpec.ofChange internBackWrong)

/-- 'graftwoodlaw10.InternTells': WHATEVER THE INPUT: true; the input reads as it did. -/
def internTellsSpec : ChangeSpec := { name := "internTells", fn := fun _ => fun
  | [d1, d2, d3] => { results := [.lit (.bool true)], args := [d1, d2, d3] }
  | _ => none }
def internTellsRow : OpenClaim := { program := "ytjneghnknfhboaadoor", sum := "58555025be9e22ce0a120b1964289abd9cc8e18d8486fe44b486134e5ac45ae9", func := "graftwood/graftwoodlaw10.InternTells", spec := "internTells", inPlace := ["internal/bytealg.CountString", "internal/bytealg.IndexByteString", "internal/bytealg.IndexString"], named := ["unicode/utf8.first", "unicode/utf8.acceptRanges", "internal/bytealg.MaxLen"], plainKeys := false, apart := false, laid := [("unicode/utf8.acceptRanges", laid_unicode_utf8_acceptRanges), ("unicode/utf8.first", laid_unicode_utf8_first)] }
def InternTellsSaid : Prop := internTellsRow.holds Tryd.pinned (OpenSpec.ofChange internTellsSpec)

/-- ITS FALSE NEIGHBOUR: 'it returns false'. Refute it at one input. -/
def internTellsWrong : ChangeSpec := { name := "internTells", fn := fun _ => fun
  | [d1, d2, d3] => { results := [.lit (.bool false)], args := [d1, d2, d3] }
  | _ => none }
def InternTellsWrongFalsely : Prop := internTellsRow.holds Tryd.pinned (OpenSpec.ofChange internTellsWrong)

/-- 'graftwoodlaw10.InternStays': WHATEVER THE INPUT: true; the input reads as it did. -/
def internStaysSpec : ChangeSpec := { name := "internStays", fn := fun _ => fun
  | [d1, d2, d3] => { results := [.lit (.bool true)], args := [d1, d2, d3] }
  | _ => none }
def internStaysRow : OpenClaim := { program := "ytjneghnknfhboaadoor", sum := "58555025be9e22ce0a120b1964289abd9cc8e18d8486fe44b486134e5ac45ae9", func := "graftwood/graftwoodlaw10.InternStays", spec := "internStays", inPlace := ["internal/bytealg.CountString", "internal/bytealg.IndexByteString", "internal/bytealg.IndexString"], named := ["unicode/utf8.first", "unicode/utf8.acceptRanges", "internal/bytealg.MaxLen"], plainKeys := false, apart := false, laid := [("unicode/utf8.acceptRanges", laid_unicode_utf8_acceptRanges), ("unicode/utf8.first", laid_unicode_utf8_first)] }
def InternStaysSaid : Prop := internStaysRow.holds Tryd.pinned (OpenSpec.ofChange internStaysSpec)

/-- ITS FALSE NEIGHBOUR: 'it returns false'. Refute it at one input. -/
def internStaysWrong : ChangeSpec := { name := "internStays", fn := fun _ => fun
  | [d1, d2, d3] => { results := [.lit (.bool false)], args := [d1, d2, d3] }
  | _ => none }
def InternStaysWrongFalsely : Prop := internStaysRow.holds Tryd.pinned (OpenSpec.ofChange internStaysWrong)

/- THE SECOND FORM. 'bulk': how many values and letters a reading holds, each counted each time it is reached (what is shared counts as often as it is met; a slice's spare places count too). A statement '..UptoSaid' is the law's where the arguments, and the package variables that the reading takes, are together of bulk at most 1048576: NARROWER than '..Said'. Prove '..Said' where nothing that the law and all that it calls make is longer than what came in: it says more and counts as full. Else prove '..UptoSaid'. A law counts once. -/
mutual
def uptoBulk {H : Type} : DataW H → Nat
  | .lit (.string bytes) => bytes.length + 1
  | .lit _ => 1
  | .nil => 1
  | .ptr d => uptoBulk d + 1
  | .slice elems spare => uptoBulkAll elems + uptoBulkAll spare + 1
  | .agg parts => uptoBulkAll parts + 1
  | .iface _ d => uptoBulk d + 1
  | .map entries => uptoBulkEntries entries + 1
  | .held _ => 1
def uptoBulkAll {H : Type} : List (DataW H) → Nat
  | [] => 0
  | d :: r => uptoBulk d + uptoBulkAll r
def uptoBulkEntries {H : Type} : List (Lit × DataW H) → Nat
  | [] => 0
  | x :: r => uptoBulkEntry x + uptoBulkEntries r
def uptoBulkEntry {H : Type} : Lit × DataW H → Nat
  | (.string bytes, d) => bytes.length + uptoBulk d + 1
  | (_, d) => uptoBulk d + 1
 end
def uptoSmall : (H : Type) → List (DataW H) → Bool := fun _ ds => decide (uptoBulkAll ds ≤ 1048576)
def OpenSpec.upto (s : _root_.Go.ChangeSpec) : _root_.Go.OpenSpec := { _root_.Go.OpenSpec.ofChange s with cond := some uptoSmall }

/-- 'graftwoodlaw10.InternAll', WHERE WHAT IT READS IS OF BULK AT MOST 1048576: true; the input reads as it did. -/
def internAllUptoRow : OpenClaim := { program := "ytjneghnknfhboaadoor", sum := "58555025be9e22ce0a120b1964289abd9cc8e18d8486fe44b486134e5ac45ae9", func := "graftwood/graftwoodlaw10.InternAll", spec := "internAll", inPlace := ["internal/bytealg.CountString", "internal/bytealg.IndexByteString", "internal/bytealg.IndexString"], named := ["unicode/utf8.first", "unicode/utf8.acceptRanges", "internal/bytealg.MaxLen"], plainKeys := false, apart := false, laid := [("unicode/utf8.acceptRanges", laid_unicode_utf8_acceptRanges), ("unicode/utf8.first", laid_unicode_utf8_first)], narrowed := true }
def InternAllUptoSaid : Prop := internAllUptoRow.holds Tryd.pinned (OpenSpec.upto internAllSpec)

/-- 'graftwoodlaw10.InternDense', WHERE WHAT IT READS IS OF BULK AT MOST 1048576: true; the input reads as it did. -/
def internDenseUptoRow : OpenClaim := { program := "ytjneghnknfhboaadoor", sum := "58555025be9e22ce0a120b1964289abd9cc8e18d8486fe44b486134e5ac45ae9", func := "graftwood/graftwoodlaw10.InternDense", spec := "internDense", inPlace := ["internal/bytealg.CountString", "internal/bytealg.IndexByteString", "internal/bytealg.IndexString"], named := ["unicode/utf8.first", "unicode/utf8.acceptRanges", "internal/bytealg.MaxLen"], plainKeys := false, apart := false, laid := [("unicode/utf8.acceptRanges", laid_unicode_utf8_acceptRanges), ("unicode/utf8.first", laid_unicode_utf8_first)], narrowed := true }
def InternDenseUptoSaid : Prop := internDenseUptoRow.holds Tryd.pinned (OpenSpec.upto internDenseSpec)

/-- 'graftwoodlaw10.InternBack', WHERE WHAT IT READS IS OF BULK AT MOST 1048576: true; the input reads as it did. -/
def internBackUptoRow : OpenClaim := { program := "ytjneghnknfhboaadoor", sum := "58555025be9e22ce0a120b1964289abd9cc8e18d8486fe44b486134e5ac45ae9", func := "graftwood/graftwoodlaw10.InternBack", spec := "internBack", inPlace := ["internal/bytealg.CountString", "internal/bytealg.IndexByteString", "internal/bytealg.IndexString"], named := ["unicode/utf8.first", "unicode/utf8.acceptRanges", "internal/bytealg.MaxLen"], plainKeys := false, apart := false, laid := [("unicode/utf8.acceptRanges", laid_unicode_utf8_acceptRanges), ("unicode/utf8.first", laid_unicode_utf8_first)], narrowed := true }
def InternBackUptoSaid : Prop := internBackUptoRow.holds Tryd.pinned (OpenSpec.upto internBackSpec)

/-- 'graftwoodlaw10.InternTells', WHERE WHAT IT READS IS OF BULK AT MOST 1048576: true; the input reads as it did. -/
def internTellsUptoRow : OpenClaim := { program := "ytjneghnknfhboaadoor", sum := "58555025be9e22ce0a120b1964289abd9cc8e18d8486fe44b486134e5ac45ae9", func := "graftwood/graftwoodlaw10.InternTells", spec := "internTells", inPlace := ["internal/bytealg.CountString", "internal/bytealg.IndexByteString", "internal/bytealg.IndexString"], named := ["unicode/utf8.first", "unicode/utf8.acceptRanges", "internal/bytealg.MaxLen"], plainKeys := false, apart := false, laid := [("unicode/utf8.acceptRanges", laid_unicode_utf8_acceptRanges), ("unicode/utf8.first", laid_unicode_utf8_first)], narrowed := true }
def InternTellsUptoSaid : Prop := internTellsUptoRow.holds Tryd.pinned (OpenSpec.upto internTellsSpec)

/-- 'graftwoodlaw10.InternStays', WHERE WHAT IT READS IS OF BULK AT MOST 1048576: true; the input reads as it did. -/
def internStaysUptoRow : OpenClaim := { program := "ytjneghnknfhboaadoor", sum := "58555025be9e22ce0a120b1964289abd9cc8e18d8486fe44b486134e5ac45ae9", func := "graftwood/graftwoodlaw10.InternStays", spec := "internStays", inPlace := ["internal/bytealg.CountString", "internal/bytealg.IndexByteString", "internal/bytealg.IndexString"], named := ["unicode/utf8.first", "unicode/utf8.acceptRanges", "internal/bytealg.MaxLen"], plainKeys := false, apart := false, laid := [("unicode/utf8.acceptRanges", laid_unicode_utf8_acceptRanges), ("unicode/utf8.first", laid_unicode_utf8_first)], narrowed := true }
def InternStaysUptoSaid : Prop := internStaysUptoRow.holds Tryd.pinned (OpenSpec.upto internStaysSpec)

end Rows
end Go.Proofs.YtjneghnknfhboaaDoor
