/-
  No cell of these rows narrows 'for every input' (looked for: loops, veiled, ifaces, maps, wideKeys, modest, calm, conditions, laid).
  DERIVED. THE GIVEN ROWS OF THIS SEAT. 8 by the template 'for every input the law returns true; each argument reads behind the call as it read before'; 0 by the template 'total and deterministic' (their statements: YtiicginipjbloaaTotals.lean).
  GIVEN WITH THE SEED: the statements are not yours to turn. If you find one false, say at which input.
  Laid BY PROGRAM, IN A SANDBOX (cutbox-rows.mjs): the forced cells as the released guide's own fill.sh prints them over the translation 540bd01b4bacf64d… (all of the seat's roots in one cut). By AI agents, Wed Nov 11 2026. No macro, syntax, notation, axiom, sorry.
-/
import Derived.Test.YtiicginipjbloaaChecked
import GoSem.Claim
import GoSem.ClaimJoined
import GoSem.ClaimMapViews
import Derived.JoinedTies
import Derived.KernelRfl
namespace Go.Proofs.Ytiicginipjbloaa
/- THE CELL 'sum', in the pinned program and in every row, IS THE sha256 OF THE DUMP (.gsa) THAT YtiicginipjbloaaProg.lean LOADS. Nothing in Lean hashes anything: it is a label: what it is worth is what the hold of that sum in a sandbox is worth. -/
noncomputable def Try.pinned : Pinned := { name := "ytiicginipjbloaa", sum := "540bd01b4bacf64d510de3be59c8906167f9e5d7f0d39fd0219a94afd7974715", checked := Try.checked }
namespace Rows
def none {H : Type} : Left H := { results := [], args := [] }

/-- 'gangerlaw04.BuddyLeast': WHATEVER THE INPUT: true; the input reads as it did. -/
def buddyLeastSpec : ChangeSpec := { name := "buddyLeast", fn := fun _ => fun
  | [d1, d2] => { results := [.lit (.bool true)], args := [d1, d2] }
  | _ => none }
def buddyLeastRow : OpenClaim := { program := "ytiicginipjbloaa", sum := "540bd01b4bacf64d510de3be59c8906167f9e5d7f0d39fd0219a94afd7974715", func := "ganger/gangerlaw04.BuddyLeast", spec := "buddyLeast", inPlace := ["slices.overlaps[int]", "slices.overlaps[ganger/api.Block]"], unfollowed := true, recurses := true, apart := false }
def BuddyLeastSaid : Prop := buddyLeastRow.holds Try.pinned (OpenSpec.ofChange buddyLeastSpec)

/-- ITS FALSE NEIGHBOUR: 'it returns false'. Refute it at one input. -/
def buddyLeastWrong : ChangeSpec := { name := "buddyLeast", fn := fun _ => fun
  | [d1, d2] => { results := [.lit (.bool false)], args := [d1, d2] }
  | _ => none }
def BuddyLeastWrongFalsely : Prop := buddyLeastRow.holds Try.pinned (OpenSpec.ofChange buddyLeastWrong)

/-- 'gangerlaw04.BuddyMost': WHATEVER THE INPUT: true; the input reads as it did. -/
def buddyMostSpec : ChangeSpec := { name := "buddyMost", fn := fun _ => fun
  | [d] => { results := [.lit (.bool true)], args := [d] }
  | _ => none }
def buddyMostRow : OpenClaim := { program := "ytiicginipjbloaa", sum := "540bd01b4bacf64d510de3be59c8906167f9e5d7f0d39fd0219a94afd7974715", func := "ganger/gangerlaw04.BuddyMost", spec := "buddyMost", inPlace := ["slices.overlaps[int]", "slices.overlaps[ganger/api.Block]"], unfollowed := true, recurses := true, apart := false }
def BuddyMostSaid : Prop := buddyMostRow.holds Try.pinned (OpenSpec.ofChange buddyMostSpec)

/-- ITS FALSE NEIGHBOUR: 'it returns false'. Refute it at one input. -/
def buddyMostWrong : ChangeSpec := { name := "buddyMost", fn := fun _ => fun
  | [d] => { results := [.lit (.bool false)], args := [d] }
  | _ => none }
def BuddyMostWrongFalsely : Prop := buddyMostRow.holds Try.pinned (OpenSpec.ofChange buddyMostWrong)

/-- 'gangerlaw04.BuddyBack': WHATEVER THE INPUT: true; the input reads as it did. -/
def buddyBackSpec : ChangeSpec := { name := "buddyBack", fn := fun _ => fun
  | [d1, d2, d3] => { results := [.lit (.bool true)], args := [d1, d2, d3] }
  | _ => none }
def buddyBackRow : OpenClaim := { program := "ytiicginipjbloaa", sum := "540bd01b4bacf64d510de3be59c8906167f9e5d7f0d39fd0219a94afd7974715", func := "ganger/gangerlaw04.BuddyBack", spec := "buddyBack", inPlace := ["slices.overlaps[int]", "slices.overlaps[ganger/api.Block]"], unfollowed := true, recurses := true, apart := false }
def BuddyBackSaid : Prop := buddyBackRow.holds Try.pinned (OpenSpec.ofChange buddyBackSpec)

/-- ITS FALSE NEIGHBOUR: 'it returns false'. Refute it at one input. -/
def buddyBackWrong : ChangeSpec := { name := "buddyBack", fn := fun _ => fun
  | [d1, d2, d3] => { results := [.lit (.bool false)], args := [d1, d2, d3] }
  | _ => none }
def BuddyBackWrongFalsely : Prop := buddyBackRow.holds Try.pinned (OpenSpec.ofChange buddyBackWrong)

/-- 'gangerlaw04.BuddyWould': WHATEVER THE INPUT: true; the input reads as it did. -/
def buddyWouldSpec : ChangeSpec := { name := "buddyWould", fn := fun _ => fun
  | [d1, d2, d3] => { results := [.lit (.bool true)], args := [d1, d2, d3] }
  | _ => none }
def buddyWouldRow : OpenClaim := { program := "ytiicginipjbloaa", sum := "540bd01b4bacf64d510de3be59c8906167f9e5d7f0d39fd0219a94afd7974715", func := "ganger/gangerlaw04.BuddyWould", spec := "buddyWould", inPlace := ["slices.overlaps[int]", "slices.overlaps[ganger/api.Block]"], unfollowed := true, recurses := true, apart := false }
def BuddyWouldSaid : Prop := buddyWouldRow.holds Try.pinned (OpenSpec.ofChange buddyWouldSpec)

/-- ITS FALSE NEIGHBOUR: 'it returns false'. Refute it at one input. -/
def buddyWouldWrong : ChangeSpec := { name := "buddyWould", fn := fun _ => fun
  | [d1, d2, d3] => { results := [.lit (.bool false)], args := [d1, d2, d3] }
  | _ => none }
def BuddyWouldWrongFalsely : Prop := buddyWouldRow.holds Try.pinned (OpenSpec.ofChange buddyWouldWrong)

/-- 'gangerlaw04.BuddyWhole': WHATEVER THE INPUT: true; the input reads as it did. -/
def buddyWholeSpec : ChangeSpec := { name := "buddyWhole", fn := fun _ => fun
  | [d] => { results := [.lit (.bool true)], args := [d] }
  | _ => none }
def buddyWholeRow : OpenClaim := { program := "ytiicginipjbloaa", sum := "540bd01b4bacf64d510de3be59c8906167f9e5d7f0d39fd0219a94afd7974715", func := "ganger/gangerlaw04.BuddyWhole", spec := "buddyWhole", inPlace := ["slices.overlaps[int]", "slices.overlaps[ganger/api.Block]"], unfollowed := true, recurses := true, apart := false }
def BuddyWholeSaid : Prop := buddyWholeRow.holds Try.pinned (OpenSpec.ofChange buddyWholeSpec)

/-- ITS FALSE NEIGHBOUR: 'it returns false'. Refute it at one input. -/
def buddyWholeWrong : ChangeSpec := { name := "buddyWhole", fn := fun _ => fun
  | [d] => { results := [.lit (.bool false)], args := [d] }
  | _ => none }
def BuddyWholeWrongFalsely : Prop := buddyWholeRow.holds Try.pinned (OpenSpec.ofChange buddyWholeWrong)

/-- 'gangerlaw04.BuddyFails': WHATEVER THE INPUT: true; the input reads as it did. -/
def buddyFailsSpec : ChangeSpec := { name := "buddyFails", fn := fun _ => fun
  | [d1, d2] => { results := [.lit (.bool true)], args := [d1, d2] }
  | _ => none }
def buddyFailsRow : OpenClaim := { program := "ytiicginipjbloaa", sum := "540bd01b4bacf64d510de3be59c8906167f9e5d7f0d39fd0219a94afd7974715", func := "ganger/gangerlaw04.BuddyFails", spec := "buddyFails", inPlace := ["slices.overlaps[int]", "slices.overlaps[ganger/api.Block]"], unfollowed := true, recurses := true, apart := false }
def BuddyFailsSaid : Prop := buddyFailsRow.holds Try.pinned (OpenSpec.ofChange buddyFailsSpec)

/-- ITS FALSE NEIGHBOUR: 'it returns false'. Refute it at one input. -/
def buddyFailsWrong : ChangeSpec := { name := "buddyFails", fn := fun _ => fun
  | [d1, d2] => { results := [.lit (.bool false)], args := [d1, d2] }
  | _ => none }
def BuddyFailsWrongFalsely : Prop := buddyFailsRow.holds Try.pinned (OpenSpec.ofChange buddyFailsWrong)

/-- 'gangerlaw04.BuddyPlays': WHATEVER THE INPUT: true; the input reads as it did. -/
def buddyPlaysSpec : ChangeSpec := { name := "buddyPlays", fn := fun _ => fun
  | [d1, d2, d3, d4] => { results := [.lit (.bool true)], args := [d1, d2, d3, d4] }
  | _ => none }
def buddyPlaysRow : OpenClaim := { program := "ytiicginipjbloaa", sum := "540bd01b4bacf64d510de3be59c8906167f9e5d7f0d39fd0219a94afd7974715", func := "ganger/gangerlaw04.BuddyPlays", spec := "buddyPlays", inPlace := ["slices.overlaps[int]", "slices.overlaps[ganger/api.Block]"], unfollowed := true, recurses := true, apart := false }
def BuddyPlaysSaid : Prop := buddyPlaysRow.holds Try.pinned (OpenSpec.ofChange buddyPlaysSpec)

/-- ITS FALSE NEIGHBOUR: 'it returns false'. Refute it at one input. -/
def buddyPlaysWrong : ChangeSpec := { name := "buddyPlays", fn := fun _ => fun
  | [d1, d2, d3, d4] => { results := [.lit (.bool false)], args := [d1, d2, d3, d4] }
  | _ => none }
def BuddyPlaysWrongFalsely : Prop := buddyPlaysRow.holds Try.pinned (OpenSpec.ofChange buddyPlaysWrong)

/-- 'gangerlaw04.BuddyAt': WHATEVER THE INPUT: true; the input reads as it did. -/
def buddyAtSpec : ChangeSpec := { name := "buddyAt", fn := fun _ => fun
  | [d1, d2, d3] => { results := [.lit (.bool true)], args := [d1, d2, d3] }
  | _ => none }
def buddyAtRow : OpenClaim := { program := "ytiicginipjbloaa", sum := "540bd01b4bacf64d510de3be59c8906167f9e5d7f0d39fd0219a94afd7974715", func := "ganger/gangerlaw04.BuddyAt", spec := "buddyAt", inPlace := ["slices.overlaps[int]", "slices.overlaps[ganger/api.Block]"], unfollowed := true, recurses := true, apart := false }
def BuddyAtSaid : Prop := buddyAtRow.holds Try.pinned (OpenSpec.ofChange buddyAtSpec)

/-- ITS FALSE NEIGHBOUR: 'it returns false'. Refute it at one input. -/
def buddyAtWrong : ChangeSpec := { name := "buddyAt", fn := fun _ => fun
  | [d1, d2, d3] => { results := [.lit (.bool false)], args := [d1, d2, d3] }
  | _ => none }
def BuddyAtWrongFalsely : Prop := buddyAtRow.holds Try.pinned (OpenSpec.ofChange buddyAtWrong)

/- THE SECOND FORM. 'bulk': how many values and letters a reading holds, each counted each time it is reached (what is shared counts as often as it is met; a slice's spare places count too). A statement '..UptoSaid' is the law's where the arguments, and the package variables that the reading takes, are together of bulk at most 1048576: NARROWER than '..Said'. Prove '..Said' where nothing that the law and all that it calls make is longer than what came in: it says more and counts as full. Else prove '..UptoSaid'. A law counts once. -/
mutual
def uptoBulk {H : Type} : DataW H → Nat
  | .lit (.string bytes) => bytes.length + 1
  | .lit _ => 1
  | .nil => 1
  | .ptr d => uptoBulk d + 1
  | .slice elems spare => uptoBulkAll elems + uptoBulkAll spare + 1
  | .agg parts => uptoBulkAll parts + 1
  | .iface _ d => uptoBulk d + 1
  | .map entries => uptoBulkEntries entries + 1
  | .held _ => 1
def uptoBulkAll {H : Type} : List (DataW H) → Nat
  | [] => 0
  | d :: r => uptoBulk d + uptoBulkAll r
def uptoBulkEntries {H : Type} : List (Lit × DataW H) → Nat
  | [] => 0
  | x :: r => uptoBulkEntry x + uptoBulkEntries r
def uptoBulkEntry {H : Type} : Lit × DataW H → Nat
  | (.string bytes, d) => bytes.length + uptoBulk d + 1
  | (_, d) => uptoBulk d + 1
 end
def uptoSmall : (H : Type) → List (DataW H) → Bool := fun _ ds => decide (uptoBulkAll ds ≤ 1048576)
def OpenSpec.upto (s : _root_.Go.ChangeSpec) : _root_.Go.OpenSpec := { _root_.Go.OpenSpec.ofChange s with cond := some uptoSmall }

/-- 'gangerlaw04.BuddyLeast', WHERE WHAT IT READS IS OF BULK AT MOST 1048576: true; the input reads as it did. -/
def buddyLeastUptoRow : OpenClaim := { program := "ytiicginipjbloaa", sum := "540bd01b4bacf64d510de3be59c8906167f9e5d7f0d39fd0219a94afd7974715", func := "ganger/gangerlaw04.BuddyLeast", spec := "buddyLeast", inPlace := ["slices.overlaps[int]", "slices.overlaps[ganger/api.Block]"], unfollowed := true, recurses := true, apart := false, narrowed := true }
def BuddyLeastUptoSaid : Prop := buddyLeastUptoRow.holds Try.pinned (OpenSpec.upto buddyLeastSpec)

/-- 'gangerlaw04.BuddyMost', WHERE WHAT IT READS IS OF BULK AT MOST 1048576: true; the input reads as it did. -/
def buddyMostUptoRow : OpenClaim := { program := "ytiicginipjbloaa", sum := "540bd01b4bacf64d510de3be59c8906167f9e5d7f0d39fd0219a94afd7974715", func := "ganger/gangerlaw04.BuddyMost", spec := "buddyMost", inPlace := ["slices.overlaps[int]", "slices.overlaps[ganger/api.Block]"], unfollowed := true, recurses := true, apart := false, narrowed := true }
def BuddyMostUptoSaid : Prop := buddyMostUptoRow.holds Try.pinned (OpenSpec.upto buddyMostSpec)

/-- 'gangerlaw04.BuddyBack', WHERE WHAT IT READS IS OF BULK AT MOST 1048576: true; the input reads as it did. -/
def buddyBackUptoRow : OpenClaim := { program := "ytiicginipjbloaa", sum := "540bd01b4bacf64d510de3be59c8906167f9e5d7f0d39fd0219a94afd7974715", func := "ganger/gangerlaw04.BuddyBack", spec := "buddyBack", inPlace := ["slices.overlaps[int]", "slices.overlaps[ganger/api.Block]"], unfollowed := true, recurses := true, apart := false, narrowed := true }
def BuddyBackUptoSaid : Prop := buddyBackUptoRow.holds Try.pinned (OpenSpec.upto buddyBackSpec)

/-- 'gangerlaw04.BuddyWould', WHERE WHAT IT READS IS OF BULK AT MOST 1048576: true; the input reads as it did. -/
def buddyWouldUptoRow : OpenClaim := { program := "ytiicginipjbloaa", sum := "540bd01b4bacf64d510de3be59c8906167f9e5d7f0d39fd0219a94afd7974715", func := "ganger/gangerlaw04.BuddyWould", spec := "buddyWould", inPlace := ["slices.overlaps[int]", "slices.overlaps[ganger/api.Block]"], unfollowed := true, recurses := true, apart := false, narrowed := true }
def BuddyWouldUptoSaid : Prop := buddyWouldUptoRow.holds Try.pinned (OpenSpec.upto buddyWouldSpec)

/-- 'gangerlaw04.BuddyWhole', WHERE WHAT IT READS IS OF BULK AT MOST 1048576: true; the input reads as it did. -/
def buddyWholeUptoRow : OpenClaim := { program := "ytiicginipjbloaa", sum := "540bd01b4bacf64d510de3be59c8906167f9e5d7f0d39fd0219a94afd7974715", func := "ganger/gangerlaw04.BuddyWhole", spec := "buddyWhole", inPlace := ["slices.overlaps[int]", "slices.overlaps[ganger/api.Block]"], unfollowed := true, recurses := true, apart := false, narrowed := true }
def BuddyWholeUptoSaid : Prop := buddyWholeUptoRow.holds Try.pinned (OpenSpec.upto buddyWholeSpec)

/-- 'gangerlaw04.BuddyFails', WHERE WHAT IT READS IS OF BULK AT MOST 1048576: true; the input reads as it did. -/
def buddyFailsUptoRow : OpenClaim := { program := "ytiicginipjbloaa", sum := "540bd01b4bacf64d510de3be59c8906167f9e5d7f0d39fd0219a94afd7974715", func := "ganger/gangerlaw04.BuddyFails", spec := "buddyFails", inPlace := ["slices.overlaps[int]", "slices.overlaps[ganger/api.Block]"], unfollowed := true, recurses := true, apart := false, narrowed := true }
def BuddyFailsUptoSaid : Prop := buddyFailsUptoRow.holds Try.pinned (OpenSpec.upto buddyFailsSpec)

/-- 'gangerlaw04.BuddyPlays', WHERE WHAT IT READS IS OF BULK AT MOST 1048576: true; the input reads as it did. -/
def buddyPlaysUptoRow : OpenClaim := { program := "ytiicginipjbloaa", sum := "540bd01b4bacf64d510de3be59c8906167f9e5d7f0d39fd0219a94afd7974715", func := "ganger/gangerlaw04.BuddyPlays", spec := "buddyPlays", inPlace := ["slices.overlaps[int]", "slices.overlaps[ganger/api.Block]"], unfollowed := true, recurses := true, apart := false, narrowed := true }
def BuddyPlaysUptoSaid : Prop := buddyPlaysUptoRow.holds Try.pinned (OpenSpec.upto buddyPlaysSpec)

/-- 'gangerlaw04.BuddyAt', WHERE WHAT IT READS IS OF BULK AT MOST 1048576: true; the input reads as it did. -/
def buddyAtUptoRow : OpenClaim := { program := "ytiicginipjbloaa", sum := "540bd01b4bacf64d510de3be59c8906167f9e5d7f0d39fd0219a94afd7974715", func := "ganger/gangerlaw04.BuddyAt", spec := "buddyAt", inPlace := ["slices.overlaps[int]", "slices.overlaps[ganger/api.Block]"], unfollowed := true, recurses := true, apart := false, narrowed := true }
def BuddyAtUptoSaid : Prop := buddyAtUptoRow.holds Try.pinned (OpenSpec.upto buddyAtSpec)

end Rows
end Go.Proofs.Ytiicginipjbloaa
