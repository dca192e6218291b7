/-
  No cell of these rows narrows 'for every input' (looked for: loops, veiled, ifaces, maps, wideKeys, modest, calm, conditions, laid).
  DERIVED. THE GIVEN ROWS OF THIS SEAT. 7 by the template 'for every input the law returns true; each argument reads behind the call as it read before'; 0 by the template 'total and deterministic' (their statements: YthebmlpohkfhbaaTotals.lean).
  GIVEN WITH THE SEED: the statements are not yours to turn. If you find one false, say at which input.
  Laid BY PROGRAM, IN A SANDBOX (cutbox-rows.mjs): the forced cells as the released guide's own fill.sh prints them over the translation f2be49d96ad4f37a… (all of the seat's roots in one cut). By AI agents, Wed Nov 11 2026. No macro, syntax, notation, axiom, sorry.
-/
import Derived.Test.YthebmlpohkfhbaaChecked
import GoSem.Claim
import GoSem.ClaimJoined
import GoSem.ClaimMapViews
import Derived.JoinedTies
import Derived.KernelRfl
namespace Go.Proofs.Ythebmlpohkfhbaa
/- THE CELL 'sum', in the pinned program and in every row, IS THE sha256 OF THE DUMP (.gsa) THAT YthebmlpohkfhbaaProg.lean LOADS. Nothing in Lean hashes anything: it is a label: what it is worth is what the hold of that sum in a sandbox is worth. -/
noncomputable def Try.pinned : Pinned := { name := "ythebmlpohkfhbaa", sum := "f2be49d96ad4f37a3f1bbd7680fd2328683a71a97fdbae1f87dcb9b0d1dd2e7a", checked := Try.checked }
namespace Rows
def none {H : Type} : Left H := { results := [], args := [] }

/-- 'gangerlaw14.WaitsLists': WHATEVER THE INPUT: true; the input reads as it did. -/
def waitsListsSpec : ChangeSpec := { name := "waitsLists", fn := fun _ => fun
  | [d1, d2] => { results := [.lit (.bool true)], args := [d1, d2] }
  | _ => none }
def waitsListsRow : OpenClaim := { program := "ythebmlpohkfhbaa", sum := "f2be49d96ad4f37a3f1bbd7680fd2328683a71a97fdbae1f87dcb9b0d1dd2e7a", func := "ganger/gangerlaw14.WaitsLists", spec := "waitsLists", unfollowed := true, recurses := true, apart := false }
def WaitsListsSaid : Prop := waitsListsRow.holds Try.pinned (OpenSpec.ofChange waitsListsSpec)

/-- ITS FALSE NEIGHBOUR: 'it returns false'. Refute it at one input. -/
def waitsListsWrong : ChangeSpec := { name := "waitsLists", fn := fun _ => fun
  | [d1, d2] => { results := [.lit (.bool false)], args := [d1, d2] }
  | _ => none }
def WaitsListsWrongFalsely : Prop := waitsListsRow.holds Try.pinned (OpenSpec.ofChange waitsListsWrong)

/-- 'gangerlaw14.WaitsSingle': WHATEVER THE INPUT: true; the input reads as it did. -/
def waitsSingleSpec : ChangeSpec := { name := "waitsSingle", fn := fun _ => fun
  | [d1, d2] => { results := [.lit (.bool true)], args := [d1, d2] }
  | _ => none }
def waitsSingleRow : OpenClaim := { program := "ythebmlpohkfhbaa", sum := "f2be49d96ad4f37a3f1bbd7680fd2328683a71a97fdbae1f87dcb9b0d1dd2e7a", func := "ganger/gangerlaw14.WaitsSingle", spec := "waitsSingle", unfollowed := true, recurses := true, apart := false }
def WaitsSingleSaid : Prop := waitsSingleRow.holds Try.pinned (OpenSpec.ofChange waitsSingleSpec)

/-- ITS FALSE NEIGHBOUR: 'it returns false'. Refute it at one input. -/
def waitsSingleWrong : ChangeSpec := { name := "waitsSingle", fn := fun _ => fun
  | [d1, d2] => { results := [.lit (.bool false)], args := [d1, d2] }
  | _ => none }
def WaitsSingleWrongFalsely : Prop := waitsSingleRow.holds Try.pinned (OpenSpec.ofChange waitsSingleWrong)

/-- 'gangerlaw14.WaitsArrays': WHATEVER THE INPUT: true; the input reads as it did. -/
def waitsArraysSpec : ChangeSpec := { name := "waitsArrays", fn := fun _ => fun
  | [d1, d2, d3] => { results := [.lit (.bool true)], args := [d1, d2, d3] }
  | _ => none }
def waitsArraysRow : OpenClaim := { program := "ythebmlpohkfhbaa", sum := "f2be49d96ad4f37a3f1bbd7680fd2328683a71a97fdbae1f87dcb9b0d1dd2e7a", func := "ganger/gangerlaw14.WaitsArrays", spec := "waitsArrays", unfollowed := true, recurses := true, apart := false }
def WaitsArraysSaid : Prop := waitsArraysRow.holds Try.pinned (OpenSpec.ofChange waitsArraysSpec)

/-- ITS FALSE NEIGHBOUR: 'it returns false'. Refute it at one input. -/
def waitsArraysWrong : ChangeSpec := { name := "waitsArrays", fn := fun _ => fun
  | [d1, d2, d3] => { results := [.lit (.bool false)], args := [d1, d2, d3] }
  | _ => none }
def WaitsArraysWrongFalsely : Prop := waitsArraysRow.holds Try.pinned (OpenSpec.ofChange waitsArraysWrong)

/-- 'gangerlaw14.WaitsNever': WHATEVER THE INPUT: true; the input reads as it did. -/
def waitsNeverSpec : ChangeSpec := { name := "waitsNever", fn := fun _ => fun
  | [d1, d2] => { results := [.lit (.bool true)], args := [d1, d2] }
  | _ => none }
def waitsNeverRow : OpenClaim := { program := "ythebmlpohkfhbaa", sum := "f2be49d96ad4f37a3f1bbd7680fd2328683a71a97fdbae1f87dcb9b0d1dd2e7a", func := "ganger/gangerlaw14.WaitsNever", spec := "waitsNever", unfollowed := true, recurses := true, apart := false }
def WaitsNeverSaid : Prop := waitsNeverRow.holds Try.pinned (OpenSpec.ofChange waitsNeverSpec)

/-- ITS FALSE NEIGHBOUR: 'it returns false'. Refute it at one input. -/
def waitsNeverWrong : ChangeSpec := { name := "waitsNever", fn := fun _ => fun
  | [d1, d2] => { results := [.lit (.bool false)], args := [d1, d2] }
  | _ => none }
def WaitsNeverWrongFalsely : Prop := waitsNeverRow.holds Try.pinned (OpenSpec.ofChange waitsNeverWrong)

/-- 'gangerlaw14.WaitsEnds': WHATEVER THE INPUT: true; the input reads as it did. -/
def waitsEndsSpec : ChangeSpec := { name := "waitsEnds", fn := fun _ => fun
  | [d1, d2, d3] => { results := [.lit (.bool true)], args := [d1, d2, d3] }
  | _ => none }
def waitsEndsRow : OpenClaim := { program := "ythebmlpohkfhbaa", sum := "f2be49d96ad4f37a3f1bbd7680fd2328683a71a97fdbae1f87dcb9b0d1dd2e7a", func := "ganger/gangerlaw14.WaitsEnds", spec := "waitsEnds", unfollowed := true, recurses := true, apart := false }
def WaitsEndsSaid : Prop := waitsEndsRow.holds Try.pinned (OpenSpec.ofChange waitsEndsSpec)

/-- ITS FALSE NEIGHBOUR: 'it returns false'. Refute it at one input. -/
def waitsEndsWrong : ChangeSpec := { name := "waitsEnds", fn := fun _ => fun
  | [d1, d2, d3] => { results := [.lit (.bool false)], args := [d1, d2, d3] }
  | _ => none }
def WaitsEndsWrongFalsely : Prop := waitsEndsRow.holds Try.pinned (OpenSpec.ofChange waitsEndsWrong)

/-- 'gangerlaw14.WaitsTime': WHATEVER THE INPUT: true; the input reads as it did. -/
def waitsTimeSpec : ChangeSpec := { name := "waitsTime", fn := fun _ => fun
  | [d1, d2, d3] => { results := [.lit (.bool true)], args := [d1, d2, d3] }
  | _ => none }
def waitsTimeRow : OpenClaim := { program := "ythebmlpohkfhbaa", sum := "f2be49d96ad4f37a3f1bbd7680fd2328683a71a97fdbae1f87dcb9b0d1dd2e7a", func := "ganger/gangerlaw14.WaitsTime", spec := "waitsTime", unfollowed := true, recurses := true, apart := false }
def WaitsTimeSaid : Prop := waitsTimeRow.holds Try.pinned (OpenSpec.ofChange waitsTimeSpec)

/-- ITS FALSE NEIGHBOUR: 'it returns false'. Refute it at one input. -/
def waitsTimeWrong : ChangeSpec := { name := "waitsTime", fn := fun _ => fun
  | [d1, d2, d3] => { results := [.lit (.bool false)], args := [d1, d2, d3] }
  | _ => none }
def WaitsTimeWrongFalsely : Prop := waitsTimeRow.holds Try.pinned (OpenSpec.ofChange waitsTimeWrong)

/-- 'gangerlaw14.WaitsSays': WHATEVER THE INPUT: true; the input reads as it did. -/
def waitsSaysSpec : ChangeSpec := { name := "waitsSays", fn := fun _ => fun
  | [d1, d2, d3] => { results := [.lit (.bool true)], args := [d1, d2, d3] }
  | _ => none }
def waitsSaysRow : OpenClaim := { program := "ythebmlpohkfhbaa", sum := "f2be49d96ad4f37a3f1bbd7680fd2328683a71a97fdbae1f87dcb9b0d1dd2e7a", func := "ganger/gangerlaw14.WaitsSays", spec := "waitsSays", unfollowed := true, recurses := true, apart := false }
def WaitsSaysSaid : Prop := waitsSaysRow.holds Try.pinned (OpenSpec.ofChange waitsSaysSpec)

/-- ITS FALSE NEIGHBOUR: 'it returns false'. Refute it at one input. -/
def waitsSaysWrong : ChangeSpec := { name := "waitsSays", fn := fun _ => fun
  | [d1, d2, d3] => { results := [.lit (.bool false)], args := [d1, d2, d3] }
  | _ => none }
def WaitsSaysWrongFalsely : Prop := waitsSaysRow.holds Try.pinned (OpenSpec.ofChange waitsSaysWrong)

/- THE SECOND FORM. 'bulk': how many values and letters a reading holds, each counted each time it is reached (what is shared counts as often as it is met; a slice's spare places count too). A statement '..UptoSaid' is the law's where the arguments, and the package variables that the reading takes, are together of bulk at most 1048576: NARROWER than '..Said'. Prove '..Said' where nothing that the law and all that it calls make is longer than what came in: it says more and counts as full. Else prove '..UptoSaid'. A law counts once. -/
mutual
def uptoBulk {H : Type} : DataW H → Nat
  | .lit (.string bytes) => bytes.length + 1
  | .lit _ => 1
  | .nil => 1
  | .ptr d => uptoBulk d + 1
  | .slice elems spare => uptoBulkAll elems + uptoBulkAll spare + 1
  | .agg parts => uptoBulkAll parts + 1
  | .iface _ d => uptoBulk d + 1
  | .map entries => uptoBulkEntries entries + 1
  | .held _ => 1
def uptoBulkAll {H : Type} : List (DataW H) → Nat
  | [] => 0
  | d :: r => uptoBulk d + uptoBulkAll r
def uptoBulkEntries {H : Type} : List (Lit × DataW H) → Nat
  | [] => 0
  | x :: r => uptoBulkEntry x + uptoBulkEntries r
def uptoBulkEntry {H : Type} : Lit × DataW H → Nat
  | (.string bytes, d) => bytes.length + uptoBulk d + 1
  | (_, d) => uptoBulk d + 1
 end
def uptoSmall : (H : Type) → List (DataW H) → Bool := fun _ ds => decide (uptoBulkAll ds ≤ 1048576)
def OpenSpec.upto (s : _root_.Go.ChangeSpec) : _root_.Go.OpenSpec := { _root_.Go.OpenSpec.ofChange s with cond := some uptoSmall }

/-- 'gangerlaw14.WaitsLists', WHERE WHAT IT READS IS OF BULK AT MOST 1048576: true; the input reads as it did. -/
def waitsListsUptoRow : OpenClaim := { program := "ythebmlpohkfhbaa", sum := "f2be49d96ad4f37a3f1bbd7680fd2328683a71a97fdbae1f87dcb9b0d1dd2e7a", func := "ganger/gangerlaw14.WaitsLists", spec := "waitsLists", unfollowed := true, recurses := true, apart := false, narrowed := true }
def WaitsListsUptoSaid : Prop := waitsListsUptoRow.holds Try.pinned (OpenSpec.upto waitsListsSpec)

/-- 'gangerlaw14.WaitsSingle', WHERE WHAT IT READS IS OF BULK AT MOST 1048576: true; the input reads as it did. -/
def waitsSingleUptoRow : OpenClaim := { program := "ythebmlpohkfhbaa", sum := "f2be49d96ad4f37a3f1bbd7680fd2328683a71a97fdbae1f87dcb9b0d1dd2e7a", func := "ganger/gangerlaw14.WaitsSingle", spec := "waitsSingle", unfollowed := true, recurses := true, apart := false, narrowed := true }
def WaitsSingleUptoSaid : Prop := waitsSingleUptoRow.holds Try.pinned (OpenSpec.upto waitsSingleSpec)

/-- 'gangerlaw14.WaitsArrays', WHERE WHAT IT READS IS OF BULK AT MOST 1048576: true; the input reads as it did. -/
def waitsArraysUptoRow : OpenClaim := { program := "ythebmlpohkfhbaa", sum := "f2be49d96ad4f37a3f1bbd7680fd2328683a71a97fdbae1f87dcb9b0d1dd2e7a", func := "ganger/gangerlaw14.WaitsArrays", spec := "waitsArrays", unfollowed := true, recurses := true, apart := false, narrowed := true }
def WaitsArraysUptoSaid : Prop := waitsArraysUptoRow.holds Try.pinned (OpenSpec.upto waitsArraysSpec)

/-- 'gangerlaw14.WaitsNever', WHERE WHAT IT READS IS OF BULK AT MOST 1048576: true; the input reads as it did. -/
def waitsNeverUptoRow : OpenClaim := { program := "ythebmlpohkfhbaa", sum := "f2be49d96ad4f37a3f1bbd7680fd2328683a71a97fdbae1f87dcb9b0d1dd2e7a", func := "ganger/gangerlaw14.WaitsNever", spec := "waitsNever", unfollowed := true, recurses := true, apart := false, narrowed := true }
def WaitsNeverUptoSaid : Prop := waitsNeverUptoRow.holds Try.pinned (OpenSpec.upto waitsNeverSpec)

/-- 'gangerlaw14.WaitsEnds', WHERE WHAT IT READS IS OF BULK AT MOST 1048576: true; the input reads as it did. -/
def waitsEndsUptoRow : OpenClaim := { program := "ythebmlpohkfhbaa", sum := "f2be49d96ad4f37a3f1bbd7680fd2328683a71a97fdbae1f87dcb9b0d1dd2e7a", func := "ganger/gangerlaw14.WaitsEnds", spec := "waitsEnds", unfollowed := true, recurses := true, apart := false, narrowed := true }
def WaitsEndsUptoSaid : Prop := waitsEndsUptoRow.holds Try.pinned (OpenSpec.upto waitsEndsSpec)

/-- 'gangerlaw14.WaitsTime', WHERE WHAT IT READS IS OF BULK AT MOST 1048576: true; the input reads as it did. -/
def waitsTimeUptoRow : OpenClaim := { program := "ythebmlpohkfhbaa", sum := "f2be49d96ad4f37a3f1bbd7680fd2328683a71a97fdbae1f87dcb9b0d1dd2e7a", func := "ganger/gangerlaw14.WaitsTime", spec := "waitsTime", unfollowed := true, recurses := true, apart := false, narrowed := true }
def WaitsTimeUptoSaid : Prop := waitsTimeUptoRow.holds Try.pinned (OpenSpec.upto waitsTimeSpec)

/-- 'gangerlaw14.WaitsSays', WHERE WHAT IT READS IS OF BULK AT MOST 1048576: true; the input reads as it did. -/
def waitsSaysUptoRow : OpenClaim := { program := "ythebmlpohkfhbaa", sum := "f2be49d96ad4f37a3f1bbd7680fd2328683a71a97fdbae1f87dcb9b0d1dd2e7a", func := "ganger/gangerlaw14.WaitsSays", spec := "waitsSays", unfollowed := true, recurses := true, apart := false, narrowed := true }
def WaitsSaysUptoSaid : Prop := waitsSaysUptoRow.holds Try.pinned (OpenSpec.upto waitsSaysSpec)

end Rows
end Go.Proofs.Ythebmlpohkfhbaa
