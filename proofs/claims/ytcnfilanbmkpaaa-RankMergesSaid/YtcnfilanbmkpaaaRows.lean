/-
  No cell of these rows narrows 'for every input' (looked for: loops, veiled, ifaces, maps, wideKeys, modest, calm, conditions, laid).
  DERIVED. THE GIVEN ROWS OF THIS SEAT. 7 by the template 'for every input the law returns true; each argument reads behind the call as it read before'; 0 by the template 'total and deterministic' (their statements: YtcnfilanbmkpaaaTotals.lean).
  GIVEN WITH THE SEED: the statements are not yours to turn. If you find one false, say at which input.
  Laid BY PROGRAM, IN A SANDBOX (cutbox-rows.mjs): the forced cells as the released guide's own fill.sh prints them over the translation 6de4bdf8f28802ea… (all of the seat's roots in one cut). By AI agents, Wed Nov 11 2026. No macro, syntax, notation, axiom, sorry.
-/
import Derived.Test.YtcnfilanbmkpaaaChecked
import GoSem.Claim
import GoSem.ClaimJoined
import GoSem.ClaimMapViews
import Derived.JoinedTies
import Derived.KernelRfl
namespace Go.Proofs.Ytcnfilanbmkpaaa
/- THE CELL 'sum', in the pinned program and in every row, IS THE sha256 OF THE DUMP (.gsa) THAT YtcnfilanbmkpaaaProg.lean LOADS. Nothing in Lean hashes anything: it is a label: what it is worth is what the hold of that sum in a sandbox is worth. -/
noncomputable def Try.pinned : Pinned := { name := "ytcnfilanbmkpaaa", sum := "6de4bdf8f28802eafd2052f14827f0474e1e684f4f89608bc38d277435c5d374", checked := Try.checked }
namespace Rows
def none {H : Type} : Left H := { results := [], args := [] }

/-- 'gangerlaw03.RankSorts': WHATEVER THE INPUT: true; the input reads as it did. -/
def rankSortsSpec : ChangeSpec := { name := "rankSorts", fn := fun _ => fun
  | [d] => { results := [.lit (.bool true)], args := [d] }
  | _ => none }
def rankSortsRow : OpenClaim := { program := "ytcnfilanbmkpaaa", sum := "6de4bdf8f28802eafd2052f14827f0474e1e684f4f89608bc38d277435c5d374", func := "ganger/gangerlaw03.RankSorts", spec := "rankSorts", unfollowed := true, recurses := true, apart := false }
def RankSortsSaid : Prop := rankSortsRow.holds Try.pinned (OpenSpec.ofChange rankSortsSpec)

/-- ITS FALSE NEIGHBOUR: 'it returns false'. Refute it at one input. -/
def rankSortsWrong : ChangeSpec := { name := "rankSorts", fn := fun _ => fun
  | [d] => { results := [.lit (.bool false)], args := [d] }
  | _ => none }
def RankSortsWrongFalsely : Prop := rankSortsRow.holds Try.pinned (OpenSpec.ofChange rankSortsWrong)

/-- 'gangerlaw03.RankLess': WHATEVER THE INPUT: true; the input reads as it did. -/
def rankLessSpec : ChangeSpec := { name := "rankLess", fn := fun _ => fun
  | [d1, d2, d3] => { results := [.lit (.bool true)], args := [d1, d2, d3] }
  | _ => none }
def rankLessRow : OpenClaim := { program := "ytcnfilanbmkpaaa", sum := "6de4bdf8f28802eafd2052f14827f0474e1e684f4f89608bc38d277435c5d374", func := "ganger/gangerlaw03.RankLess", spec := "rankLess", unfollowed := true, recurses := true, apart := false }
def RankLessSaid : Prop := rankLessRow.holds Try.pinned (OpenSpec.ofChange rankLessSpec)

/-- ITS FALSE NEIGHBOUR: 'it returns false'. Refute it at one input. -/
def rankLessWrong : ChangeSpec := { name := "rankLess", fn := fun _ => fun
  | [d1, d2, d3] => { results := [.lit (.bool false)], args := [d1, d2, d3] }
  | _ => none }
def RankLessWrongFalsely : Prop := rankLessRow.holds Try.pinned (OpenSpec.ofChange rankLessWrong)

/-- 'gangerlaw03.RankBytes': WHATEVER THE INPUT: true; the input reads as it did. -/
def rankBytesSpec : ChangeSpec := { name := "rankBytes", fn := fun _ => fun
  | [d1, d2] => { results := [.lit (.bool true)], args := [d1, d2] }
  | _ => none }
def rankBytesRow : OpenClaim := { program := "ytcnfilanbmkpaaa", sum := "6de4bdf8f28802eafd2052f14827f0474e1e684f4f89608bc38d277435c5d374", func := "ganger/gangerlaw03.RankBytes", spec := "rankBytes", unfollowed := true, recurses := true, apart := false }
def RankBytesSaid : Prop := rankBytesRow.holds Try.pinned (OpenSpec.ofChange rankBytesSpec)

/-- ITS FALSE NEIGHBOUR: 'it returns false'. Refute it at one input. -/
def rankBytesWrong : ChangeSpec := { name := "rankBytes", fn := fun _ => fun
  | [d1, d2] => { results := [.lit (.bool false)], args := [d1, d2] }
  | _ => none }
def RankBytesWrongFalsely : Prop := rankBytesRow.holds Try.pinned (OpenSpec.ofChange rankBytesWrong)

/-- 'gangerlaw03.RankTops': WHATEVER THE INPUT: true; the input reads as it did. -/
def rankTopsSpec : ChangeSpec := { name := "rankTops", fn := fun _ => fun
  | [d1, d2, d3] => { results := [.lit (.bool true)], args := [d1, d2, d3] }
  | _ => none }
def rankTopsRow : OpenClaim := { program := "ytcnfilanbmkpaaa", sum := "6de4bdf8f28802eafd2052f14827f0474e1e684f4f89608bc38d277435c5d374", func := "ganger/gangerlaw03.RankTops", spec := "rankTops", unfollowed := true, recurses := true, apart := false }
def RankTopsSaid : Prop := rankTopsRow.holds Try.pinned (OpenSpec.ofChange rankTopsSpec)

/-- ITS FALSE NEIGHBOUR: 'it returns false'. Refute it at one input. -/
def rankTopsWrong : ChangeSpec := { name := "rankTops", fn := fun _ => fun
  | [d1, d2, d3] => { results := [.lit (.bool false)], args := [d1, d2, d3] }
  | _ => none }
def RankTopsWrongFalsely : Prop := rankTopsRow.holds Try.pinned (OpenSpec.ofChange rankTopsWrong)

/-- 'gangerlaw03.RankMerges': WHATEVER THE INPUT: true; the input reads as it did. -/
def rankMergesSpec : ChangeSpec := { name := "rankMerges", fn := fun _ => fun
  | [d1, d2] => { results := [.lit (.bool true)], args := [d1, d2] }
  | _ => none }
def rankMergesRow : OpenClaim := { program := "ytcnfilanbmkpaaa", sum := "6de4bdf8f28802eafd2052f14827f0474e1e684f4f89608bc38d277435c5d374", func := "ganger/gangerlaw03.RankMerges", spec := "rankMerges", unfollowed := true, recurses := true, apart := false }
def RankMergesSaid : Prop := rankMergesRow.holds Try.pinned (OpenSpec.ofChange rankMergesSpec)

/-- ITS FALSE NEIGHBOUR: 'it returns false'. Refute it at one input. -/
def rankMergesWrong : ChangeSpec := { name := "rankMerges", fn := fun _ => fun
  | [d1, d2] => { results := [.lit (.bool false)], args := [d1, d2] }
  | _ => none }
def RankMergesWrongFalsely : Prop := rankMergesRow.holds Try.pinned (OpenSpec.ofChange rankMergesWrong)

/-- 'gangerlaw03.RankPuts': WHATEVER THE INPUT: true; the input reads as it did. -/
def rankPutsSpec : ChangeSpec := { name := "rankPuts", fn := fun _ => fun
  | [d1, d2, d3] => { results := [.lit (.bool true)], args := [d1, d2, d3] }
  | _ => none }
def rankPutsRow : OpenClaim := { program := "ytcnfilanbmkpaaa", sum := "6de4bdf8f28802eafd2052f14827f0474e1e684f4f89608bc38d277435c5d374", func := "ganger/gangerlaw03.RankPuts", spec := "rankPuts", inPlace := ["slices.overlaps[ganger/api.Key]"], unfollowed := true, recurses := true, apart := false }
def RankPutsSaid : Prop := rankPutsRow.holds Try.pinned (OpenSpec.ofChange rankPutsSpec)

/-- ITS FALSE NEIGHBOUR: 'it returns false'. Refute it at one input. -/
def rankPutsWrong : ChangeSpec := { name := "rankPuts", fn := fun _ => fun
  | [d1, d2, d3] => { results := [.lit (.bool false)], args := [d1, d2, d3] }
  | _ => none }
def RankPutsWrongFalsely : Prop := rankPutsRow.holds Try.pinned (OpenSpec.ofChange rankPutsWrong)

/-- 'gangerlaw03.RankBack': WHATEVER THE INPUT: true; the input reads as it did. -/
def rankBackSpec : ChangeSpec := { name := "rankBack", fn := fun _ => fun
  | [d1, d2, d3] => { results := [.lit (.bool true)], args := [d1, d2, d3] }
  | _ => none }
def rankBackRow : OpenClaim := { program := "ytcnfilanbmkpaaa", sum := "6de4bdf8f28802eafd2052f14827f0474e1e684f4f89608bc38d277435c5d374", func := "ganger/gangerlaw03.RankBack", spec := "rankBack", inPlace := ["slices.overlaps[ganger/api.Key]"], unfollowed := true, recurses := true, apart := false }
def RankBackSaid : Prop := rankBackRow.holds Try.pinned (OpenSpec.ofChange rankBackSpec)

/-- ITS FALSE NEIGHBOUR: 'it returns false'. Refute it at one input. -/
def rankBackWrong : ChangeSpec := { name := "rankBack", fn := fun _ => fun
  | [d1, d2, d3] => { results := [.lit (.bool false)], args := [d1, d2, d3] }
  | _ => none }
def RankBackWrongFalsely : Prop := rankBackRow.holds Try.pinned (OpenSpec.ofChange rankBackWrong)

/- THE SECOND FORM. 'bulk': how many values and letters a reading holds, each counted each time it is reached (what is shared counts as often as it is met; a slice's spare places count too). A statement '..UptoSaid' is the law's where the arguments, and the package variables that the reading takes, are together of bulk at most 1048576: NARROWER than '..Said'. Prove '..Said' where nothing that the law and all that it calls make is longer than what came in: it says more and counts as full. Else prove '..UptoSaid'. A law counts once. -/
mutual
def uptoBulk {H : Type} : DataW H → Nat
  | .lit (.string bytes) => bytes.length + 1
  | .lit _ => 1
  | .nil => 1
  | .ptr d => uptoBulk d + 1
  | .slice elems spare => uptoBulkAll elems + uptoBulkAll spare + 1
  | .agg parts => uptoBulkAll parts + 1
  | .iface _ d => uptoBulk d + 1
  | .map entries => uptoBulkEntries entries + 1
  | .held _ => 1
def uptoBulkAll {H : Type} : List (DataW H) → Nat
  | [] => 0
  | d :: r => uptoBulk d + uptoBulkAll r
def uptoBulkEntries {H : Type} : List (Lit × DataW H) → Nat
  | [] => 0
  | x :: r => uptoBulkEntry x + uptoBulkEntries r
def uptoBulkEntry {H : Type} : Lit × DataW H → Nat
  | (.string bytes, d) => bytes.length + uptoBulk d + 1
  | (_, d) => uptoBulk d + 1
 end
def uptoSmall : (H : Type) → List (DataW H) → Bool := fun _ ds => decide (uptoBulkAll ds ≤ 1048576)
def OpenSpec.upto (s : _root_.Go.ChangeSpec) : _root_.Go.OpenSpec := { _root_.Go.OpenSpec.ofChange s with cond := some uptoSmall }

/-- 'gangerlaw03.RankSorts', WHERE WHAT IT READS IS OF BULK AT MOST 1048576: true; the input reads as it did. -/
def rankSortsUptoRow : OpenClaim := { program := "ytcnfilanbmkpaaa", sum := "6de4bdf8f28802eafd2052f14827f0474e1e684f4f89608bc38d277435c5d374", func := "ganger/gangerlaw03.RankSorts", spec := "rankSorts", unfollowed := true, recurses := true, apart := false, narrowed := true }
def RankSortsUptoSaid : Prop := rankSortsUptoRow.holds Try.pinned (OpenSpec.upto rankSortsSpec)

/-- 'gangerlaw03.RankLess', WHERE WHAT IT READS IS OF BULK AT MOST 1048576: true; the input reads as it did. -/
def rankLessUptoRow : OpenClaim := { program := "ytcnfilanbmkpaaa", sum := "6de4bdf8f28802eafd2052f14827f0474e1e684f4f89608bc38d277435c5d374", func := "ganger/gangerlaw03.RankLess", spec := "rankLess", unfollowed := true, recurses := true, apart := false, narrowed := true }
def RankLessUptoSaid : Prop := rankLessUptoRow.holds Try.pinned (OpenSpec.upto rankLessSpec)

/-- 'gangerlaw03.RankBytes', WHERE WHAT IT READS IS OF BULK AT MOST 1048576: true; the input reads as it did. -/
def rankBytesUptoRow : OpenClaim := { program := "ytcnfilanbmkpaaa", sum := "6de4bdf8f28802eafd2052f14827f0474e1e684f4f89608bc38d277435c5d374", func := "ganger/gangerlaw03.RankBytes", spec := "rankBytes", unfollowed := true, recurses := true, apart := false, narrowed := true }
def RankBytesUptoSaid : Prop := rankBytesUptoRow.holds Try.pinned (OpenSpec.upto rankBytesSpec)

/-- 'gangerlaw03.RankTops', WHERE WHAT IT READS IS OF BULK AT MOST 1048576: true; the input reads as it did. -/
def rankTopsUptoRow : OpenClaim := { program := "ytcnfilanbmkpaaa", sum := "6de4bdf8f28802eafd2052f14827f0474e1e684f4f89608bc38d277435c5d374", func := "ganger/gangerlaw03.RankTops", spec := "rankTops", unfollowed := true, recurses := true, apart := false, narrowed := true }
def RankTopsUptoSaid : Prop := rankTopsUptoRow.holds Try.pinned (OpenSpec.upto rankTopsSpec)

/-- 'gangerlaw03.RankMerges', WHERE WHAT IT READS IS OF BULK AT MOST 1048576: true; the input reads as it did. -/
def rankMergesUptoRow : OpenClaim := { program := "ytcnfilanbmkpaaa", sum := "6de4bdf8f28802eafd2052f14827f0474e1e684f4f89608bc38d277435c5d374", func := "ganger/gangerlaw03.RankMerges", spec := "rankMerges", unfollowed := true, recurses := true, apart := false, narrowed := true }
def RankMergesUptoSaid : Prop := rankMergesUptoRow.holds Try.pinned (OpenSpec.upto rankMergesSpec)

/-- 'gangerlaw03.RankPuts', WHERE WHAT IT READS IS OF BULK AT MOST 1048576: true; the input reads as it did. -/
def rankPutsUptoRow : OpenClaim := { program := "ytcnfilanbmkpaaa", sum := "6de4bdf8f28802eafd2052f14827f0474e1e684f4f89608bc38d277435c5d374", func := "ganger/gangerlaw03.RankPuts", spec := "rankPuts", inPlace := ["slices.overlaps[ganger/api.Key]"], unfollowed := true, recurses := true, apart := false, narrowed := true }
def RankPutsUptoSaid : Prop := rankPutsUptoRow.holds Try.pinned (OpenSpec.upto rankPutsSpec)

/-- 'gangerlaw03.RankBack', WHERE WHAT IT READS IS OF BULK AT MOST 1048576: true; the input reads as it did. -/
def rankBackUptoRow : OpenClaim := { program := "ytcnfilanbmkpaaa", sum := "6de4bdf8f28802eafd2052f14827f0474e1e684f4f89608bc38d277435c5d374", func := "ganger/gangerlaw03.RankBack", spec := "rankBack", inPlace := ["slices.overlaps[ganger/api.Key]"], unfollowed := true, recurses := true, apart := false, narrowed := true }
def RankBackUptoSaid : Prop := rankBackUptoRow.holds Try.pinned (OpenSpec.upto rankBackSpec)

end Rows
end Go.Proofs.Ytcnfilanbmkpaaa
