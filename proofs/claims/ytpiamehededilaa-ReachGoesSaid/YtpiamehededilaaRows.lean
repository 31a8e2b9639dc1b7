/-
  No cell of these rows narrows 'for every input' (looked for: loops, veiled, ifaces, maps, wideKeys, modest, calm, conditions, laid).
  DERIVED. THE GIVEN ROWS OF THIS SEAT. 7 by the template 'for every input the law returns true; each argument reads behind the call as it read before'; 0 by the template 'total and deterministic' (their statements: YtpiamehededilaaTotals.lean).
  GIVEN WITH THE SEED: the statements are not yours to turn. If you find one false, say at which input.
  Laid BY PROGRAM, IN A SANDBOX (cutbox-rows.mjs): the forced cells as the released guide's own fill.sh prints them over the translation dfee80f72fdb302f… (all of the seat's roots in one cut). By AI agents, Wed Nov 11 2026. No macro, syntax, notation, axiom, sorry.
-/
import Derived.Test.YtpiamehededilaaChecked
import GoSem.Claim
import GoSem.ClaimJoined
import GoSem.ClaimMapViews
import Derived.JoinedTies
import Derived.KernelRfl
namespace Go.Proofs.Ytpiamehededilaa
/- THE CELL 'sum', in the pinned program and in every row, IS THE sha256 OF THE DUMP (.gsa) THAT YtpiamehededilaaProg.lean LOADS. Nothing in Lean hashes anything: it is a label: what it is worth is what the hold of that sum in a sandbox is worth. -/
noncomputable def Try.pinned : Pinned := { name := "ytpiamehededilaa", sum := "dfee80f72fdb302fcae36b5a6c18efd5d15f2cc87ada692b0943a0c049994b77", checked := Try.checked }
namespace Rows
def none {H : Type} : Left H := { results := [], args := [] }

/-- 'graftwoodlaw15.ReachLinks': WHATEVER THE INPUT: true; the input reads as it did. -/
def reachLinksSpec : ChangeSpec := { name := "reachLinks", fn := fun _ => fun
  | [d1, d2, d3] => { results := [.lit (.bool true)], args := [d1, d2, d3] }
  | _ => none }
def reachLinksRow : OpenClaim := { program := "ytpiamehededilaa", sum := "dfee80f72fdb302fcae36b5a6c18efd5d15f2cc87ada692b0943a0c049994b77", func := "graftwood/graftwoodlaw15.ReachLinks", spec := "reachLinks", inPlace := ["slices.overlaps[graftwood/api.Edge]"], unfollowed := true, recurses := true, apart := false }
def ReachLinksSaid : Prop := reachLinksRow.holds Try.pinned (OpenSpec.ofChange reachLinksSpec)

/-- ITS FALSE NEIGHBOUR: 'it returns false'. Refute it at one input. -/
def reachLinksWrong : ChangeSpec := { name := "reachLinks", fn := fun _ => fun
  | [d1, d2, d3] => { results := [.lit (.bool false)], args := [d1, d2, d3] }
  | _ => none }
def ReachLinksWrongFalsely : Prop := reachLinksRow.holds Try.pinned (OpenSpec.ofChange reachLinksWrong)

/-- 'graftwoodlaw15.ReachUnlinks': WHATEVER THE INPUT: true; the input reads as it did. -/
def reachUnlinksSpec : ChangeSpec := { name := "reachUnlinks", fn := fun _ => fun
  | [d1, d2, d3] => { results := [.lit (.bool true)], args := [d1, d2, d3] }
  | _ => none }
def reachUnlinksRow : OpenClaim := { program := "ytpiamehededilaa", sum := "dfee80f72fdb302fcae36b5a6c18efd5d15f2cc87ada692b0943a0c049994b77", func := "graftwood/graftwoodlaw15.ReachUnlinks", spec := "reachUnlinks", inPlace := ["slices.overlaps[graftwood/api.Edge]"], unfollowed := true, recurses := true, apart := false }
def ReachUnlinksSaid : Prop := reachUnlinksRow.holds Try.pinned (OpenSpec.ofChange reachUnlinksSpec)

/-- ITS FALSE NEIGHBOUR: 'it returns false'. Refute it at one input. -/
def reachUnlinksWrong : ChangeSpec := { name := "reachUnlinks", fn := fun _ => fun
  | [d1, d2, d3] => { results := [.lit (.bool false)], args := [d1, d2, d3] }
  | _ => none }
def ReachUnlinksWrongFalsely : Prop := reachUnlinksRow.holds Try.pinned (OpenSpec.ofChange reachUnlinksWrong)

/-- 'graftwoodlaw15.ReachEnds': WHATEVER THE INPUT: true; the input reads as it did. -/
def reachEndsSpec : ChangeSpec := { name := "reachEnds", fn := fun _ => fun
  | [d] => { results := [.lit (.bool true)], args := [d] }
  | _ => none }
def reachEndsRow : OpenClaim := { program := "ytpiamehededilaa", sum := "dfee80f72fdb302fcae36b5a6c18efd5d15f2cc87ada692b0943a0c049994b77", func := "graftwood/graftwoodlaw15.ReachEnds", spec := "reachEnds", inPlace := ["slices.overlaps[graftwood/api.Edge]"], unfollowed := true, recurses := true, apart := false }
def ReachEndsSaid : Prop := reachEndsRow.holds Try.pinned (OpenSpec.ofChange reachEndsSpec)

/-- ITS FALSE NEIGHBOUR: 'it returns false'. Refute it at one input. -/
def reachEndsWrong : ChangeSpec := { name := "reachEnds", fn := fun _ => fun
  | [d] => { results := [.lit (.bool false)], args := [d] }
  | _ => none }
def ReachEndsWrongFalsely : Prop := reachEndsRow.holds Try.pinned (OpenSpec.ofChange reachEndsWrong)

/-- 'graftwoodlaw15.ReachOf': WHATEVER THE INPUT: true; the input reads as it did. -/
def reachOfSpec : ChangeSpec := { name := "reachOf", fn := fun _ => fun
  | [d1, d2] => { results := [.lit (.bool true)], args := [d1, d2] }
  | _ => none }
def reachOfRow : OpenClaim := { program := "ytpiamehededilaa", sum := "dfee80f72fdb302fcae36b5a6c18efd5d15f2cc87ada692b0943a0c049994b77", func := "graftwood/graftwoodlaw15.ReachOf", spec := "reachOf", inPlace := ["slices.overlaps[graftwood/api.Edge]"], unfollowed := true, recurses := true, apart := false }
def ReachOfSaid : Prop := reachOfRow.holds Try.pinned (OpenSpec.ofChange reachOfSpec)

/-- ITS FALSE NEIGHBOUR: 'it returns false'. Refute it at one input. -/
def reachOfWrong : ChangeSpec := { name := "reachOf", fn := fun _ => fun
  | [d1, d2] => { results := [.lit (.bool false)], args := [d1, d2] }
  | _ => none }
def ReachOfWrongFalsely : Prop := reachOfRow.holds Try.pinned (OpenSpec.ofChange reachOfWrong)

/-- 'graftwoodlaw15.ReachGoes': WHATEVER THE INPUT: true; the input reads as it did. -/
def reachGoesSpec : ChangeSpec := { name := "reachGoes", fn := fun _ => fun
  | [d] => { results := [.lit (.bool true)], args := [d] }
  | _ => none }
def reachGoesRow : OpenClaim := { program := "ytpiamehededilaa", sum := "dfee80f72fdb302fcae36b5a6c18efd5d15f2cc87ada692b0943a0c049994b77", func := "graftwood/graftwoodlaw15.ReachGoes", spec := "reachGoes", inPlace := ["slices.overlaps[graftwood/api.Edge]"], unfollowed := true, recurses := true, apart := false }
def ReachGoesSaid : Prop := reachGoesRow.holds Try.pinned (OpenSpec.ofChange reachGoesSpec)

/-- ITS FALSE NEIGHBOUR: 'it returns false'. Refute it at one input. -/
def reachGoesWrong : ChangeSpec := { name := "reachGoes", fn := fun _ => fun
  | [d] => { results := [.lit (.bool false)], args := [d] }
  | _ => none }
def ReachGoesWrongFalsely : Prop := reachGoesRow.holds Try.pinned (OpenSpec.ofChange reachGoesWrong)

/-- 'graftwoodlaw15.ReachMore': WHATEVER THE INPUT: true; the input reads as it did. -/
def reachMoreSpec : ChangeSpec := { name := "reachMore", fn := fun _ => fun
  | [d1, d2, d3] => { results := [.lit (.bool true)], args := [d1, d2, d3] }
  | _ => none }
def reachMoreRow : OpenClaim := { program := "ytpiamehededilaa", sum := "dfee80f72fdb302fcae36b5a6c18efd5d15f2cc87ada692b0943a0c049994b77", func := "graftwood/graftwoodlaw15.ReachMore", spec := "reachMore", inPlace := ["slices.overlaps[graftwood/api.Edge]"], unfollowed := true, recurses := true, apart := false }
def ReachMoreSaid : Prop := reachMoreRow.holds Try.pinned (OpenSpec.ofChange reachMoreSpec)

/-- ITS FALSE NEIGHBOUR: 'it returns false'. Refute it at one input. -/
def reachMoreWrong : ChangeSpec := { name := "reachMore", fn := fun _ => fun
  | [d1, d2, d3] => { results := [.lit (.bool false)], args := [d1, d2, d3] }
  | _ => none }
def ReachMoreWrongFalsely : Prop := reachMoreRow.holds Try.pinned (OpenSpec.ofChange reachMoreWrong)

/-- 'graftwoodlaw15.ReachRing': WHATEVER THE INPUT: true; the input reads as it did. -/
def reachRingSpec : ChangeSpec := { name := "reachRing", fn := fun _ => fun
  | [d1, d2, d3] => { results := [.lit (.bool true)], args := [d1, d2, d3] }
  | _ => none }
def reachRingRow : OpenClaim := { program := "ytpiamehededilaa", sum := "dfee80f72fdb302fcae36b5a6c18efd5d15f2cc87ada692b0943a0c049994b77", func := "graftwood/graftwoodlaw15.ReachRing", spec := "reachRing", inPlace := ["slices.overlaps[graftwood/api.Edge]"], unfollowed := true, recurses := true, apart := false }
def ReachRingSaid : Prop := reachRingRow.holds Try.pinned (OpenSpec.ofChange reachRingSpec)

/-- ITS FALSE NEIGHBOUR: 'it returns false'. Refute it at one input. -/
def reachRingWrong : ChangeSpec := { name := "reachRing", fn := fun _ => fun
  | [d1, d2, d3] => { results := [.lit (.bool false)], args := [d1, d2, d3] }
  | _ => none }
def ReachRingWrongFalsely : Prop := reachRingRow.holds Try.pinned (OpenSpec.ofChange reachRingWrong)

/- THE SECOND FORM. 'bulk': how many values and letters a reading holds, each counted each time it is reached (what is shared counts as often as it is met; a slice's spare places count too). A statement '..UptoSaid' is the law's where the arguments, and the package variables that the reading takes, are together of bulk at most 1048576: NARROWER than '..Said'. Prove '..Said' where nothing that the law and all that it calls make is longer than what came in: it says more and counts as full. Else prove '..UptoSaid'. A law counts once. -/
mutual
def uptoBulk {H : Type} : DataW H → Nat
  | .lit (.string bytes) => bytes.length + 1
  | .lit _ => 1
  | .nil => 1
  | .ptr d => uptoBulk d + 1
  | .slice elems spare => uptoBulkAll elems + uptoBulkAll spare + 1
  | .agg parts => uptoBulkAll parts + 1
  | .iface _ d => uptoBulk d + 1
  | .map entries => uptoBulkEntries entries + 1
  | .held _ => 1
def uptoBulkAll {H : Type} : List (DataW H) → Nat
  | [] => 0
  | d :: r => uptoBulk d + uptoBulkAll r
def uptoBulkEntries {H : Type} : List (Lit × DataW H) → Nat
  | [] => 0
  | x :: r => uptoBulkEntry x + uptoBulkEntries r
def uptoBulkEntry {H : Type} : Lit × DataW H → Nat
  | (.string bytes, d) => bytes.length + uptoBulk d + 1
  | (_, d) => uptoBulk d + 1
 end
def uptoSmall : (H : Type) → List (DataW H) → Bool := fun _ ds => decide (uptoBulkAll ds ≤ 1048576)
def OpenSpec.upto (s : _root_.Go.ChangeSpec) : _root_.Go.OpenSpec := { _root_.Go.OpenSpec.ofChange s with cond := some uptoSmall }

/-- 'graftwoodlaw15.ReachLinks', WHERE WHAT IT READS IS OF BULK AT MOST 1048576: true; the input reads as it did. -/
def reachLinksUptoRow : OpenClaim := { program := "ytpiamehededilaa", sum := "dfee80f72fdb302fcae36b5a6c18efd5d15f2cc87ada692b0943a0c049994b77", func := "graftwood/graftwoodlaw15.ReachLinks", spec := "reachLinks", inPlace := ["slices.overlaps[graftwood/api.Edge]"], unfollowed := true, recurses := true, apart := false, narrowed := true }
def ReachLinksUptoSaid : Prop := reachLinksUptoRow.holds Try.pinned (OpenSpec.upto reachLinksSpec)

/-- 'graftwoodlaw15.ReachUnlinks', WHERE WHAT IT READS IS OF BULK AT MOST 1048576: true; the input reads as it did. -/
def reachUnlinksUptoRow : OpenClaim := { program := "ytpiamehededilaa", sum := "dfee80f72fdb302fcae36b5a6c18efd5d15f2cc87ada692b0943a0c049994b77", func := "graftwood/graftwoodlaw15.ReachUnlinks", spec := "reachUnlinks", inPlace := ["slices.overlaps[graftwood/api.Edge]"], unfollowed := true, recurses := true, apart := false, narrowed := true }
def ReachUnlinksUptoSaid : Prop := reachUnlinksUptoRow.holds Try.pinned (OpenSpec.upto reachUnlinksSpec)

/-- 'graftwoodlaw15.ReachEnds', WHERE WHAT IT READS IS OF BULK AT MOST 1048576: true; the input reads as it did. -/
def reachEndsUptoRow : OpenClaim := { program := "ytpiamehededilaa", sum := "dfee80f72fdb302fcae36b5a6c18efd5d15f2cc87ada692b0943a0c049994b77", func := "graftwood/graftwoodlaw15.ReachEnds", spec := "reachEnds", inPlace := ["slices.overlaps[graftwood/api.Edge]"], unfollowed := true, recurses := true, apart := false, narrowed := true }
def ReachEndsUptoSaid : Prop := reachEndsUptoRow.holds Try.pinned (OpenSpec.upto reachEndsSpec)

/-- 'graftwoodlaw15.ReachOf', WHERE WHAT IT READS IS OF BULK AT MOST 1048576: true; the input reads as it did. -/
def reachOfUptoRow : OpenClaim := { program := "ytpiamehededilaa", sum := "dfee80f72fdb302fcae36b5a6c18efd5d15f2cc87ada692b0943a0c049994b77", func := "graftwood/graftwoodlaw15.ReachOf", spec := "reachOf", inPlace := ["slices.overlaps[graftwood/api.Edge]"], unfollowed := true, recurses := true, apart := false, narrowed := true }
def ReachOfUptoSaid : Prop := reachOfUptoRow.holds Try.pinned (OpenSpec.upto reachOfSpec)

/-- 'graftwoodlaw15.ReachGoes', WHERE WHAT IT READS IS OF BULK AT MOST 1048576: true; the input reads as it did. -/
def reachGoesUptoRow : OpenClaim := { program := "ytpiamehededilaa", sum := "dfee80f72fdb302fcae36b5a6c18efd5d15f2cc87ada692b0943a0c049994b77", func := "graftwood/graftwoodlaw15.ReachGoes", spec := "reachGoes", inPlace := ["slices.overlaps[graftwood/api.Edge]"], unfollowed := true, recurses := true, apart := false, narrowed := true }
def ReachGoesUptoSaid : Prop := reachGoesUptoRow.holds Try.pinned (OpenSpec.upto reachGoesSpec)

/-- 'graftwoodlaw15.ReachMore', WHERE WHAT IT READS IS OF BULK AT MOST 1048576: true; the input reads as it did. -/
def reachMoreUptoRow : OpenClaim := { program := "ytpiamehededilaa", sum := "dfee80f72fdb302fcae36b5a6c18efd5d15f2cc87ada692b0943a0c049994b77", func := "graftwood/graftwoodlaw15.ReachMore", spec := "reachMore", inPlace := ["slices.overlaps[graftwood/api.Edge]"], unfollowed := true, recurses := true, apart := false, narrowed := true }
def ReachMoreUptoSaid : Prop := reachMoreUptoRow.holds Try.pinned (OpenSpec.upto reachMoreSpec)

/-- 'graftwoodlaw15.ReachRing', WHERE WHAT IT READS IS OF BULK AT MOST 1048576: true; the input reads as it did. -/
def reachRingUptoRow : OpenClaim := { program := "ytpiamehededilaa", sum := "dfee80f72fdb302fcae36b5a6c18efd5d15f2cc87ada692b0943a0c049994b77", func := "graftwood/graftwoodlaw15.ReachRing", spec := "reachRing", inPlace := ["slices.overlaps[graftwood/api.Edge]"], unfollowed := true, recurses := true, apart := false, narrowed := true }
def ReachRingUptoSaid : Prop := reachRingUptoRow.holds Try.pinned (OpenSpec.upto reachRingSpec)

end Rows
end Go.Proofs.Ytpiamehededilaa
