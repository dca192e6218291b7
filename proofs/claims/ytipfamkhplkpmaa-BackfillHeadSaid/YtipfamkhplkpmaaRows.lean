/-
  No cell of these rows narrows 'for every input' (looked for: loops, veiled, ifaces, maps, wideKeys, modest, calm, conditions, laid).
  DERIVED. THE GIVEN ROWS OF THIS SEAT. 5 by the template 'for every input the law returns true; each argument reads behind the call as it read before'; 0 by the template 'total and deterministic' (their statements: YtipfamkhplkpmaaTotals.lean).
  GIVEN WITH THE SEED: the statements are not yours to turn. If you find one false, say at which input.
  Laid BY PROGRAM, IN A SANDBOX (cutbox-rows.mjs): the forced cells as the released guide's own fill.sh prints them over the translation a8c182296bf95c1e… (all of the seat's roots in one cut). By AI agents, Wed Nov 11 2026. No macro, syntax, notation, axiom, sorry.
-/
import Derived.Test.YtipfamkhplkpmaaChecked
import GoSem.Claim
import GoSem.ClaimJoined
import GoSem.ClaimMapViews
import Derived.JoinedTies
import Derived.KernelRfl
namespace Go.Proofs.Ytipfamkhplkpmaa
/- THE CELL 'sum', in the pinned program and in every row, IS THE sha256 OF THE DUMP (.gsa) THAT YtipfamkhplkpmaaProg.lean LOADS. Nothing in Lean hashes anything: it is a label: what it is worth is what the hold of that sum in a sandbox is worth. -/
noncomputable def Try.pinned : Pinned := { name := "ytipfamkhplkpmaa", sum := "a8c182296bf95c1e63e4b8a58af514fbc883b72ac432baf21adccd3b207843c4", checked := Try.checked }
namespace Rows
def none {H : Type} : Left H := { results := [], args := [] }

/-- 'gangerlaw15.BackfillApart': WHATEVER THE INPUT: true; the input reads as it did. -/
def backfillApartSpec : ChangeSpec := { name := "backfillApart", fn := fun _ => fun
  | [d1, d2, d3, d4] => { results := [.lit (.bool true)], args := [d1, d2, d3, d4] }
  | _ => none }
def backfillApartRow : OpenClaim := { program := "ytipfamkhplkpmaa", sum := "a8c182296bf95c1e63e4b8a58af514fbc883b72ac432baf21adccd3b207843c4", func := "ganger/gangerlaw15.BackfillApart", spec := "backfillApart", unfollowed := true, recurses := true, apart := false }
def BackfillApartSaid : Prop := backfillApartRow.holds Try.pinned (OpenSpec.ofChange backfillApartSpec)

/-- ITS FALSE NEIGHBOUR: 'it returns false'. Refute it at one input. -/
def backfillApartWrong : ChangeSpec := { name := "backfillApart", fn := fun _ => fun
  | [d1, d2, d3, d4] => { results := [.lit (.bool false)], args := [d1, d2, d3, d4] }
  | _ => none }
def BackfillApartWrongFalsely : Prop := backfillApartRow.holds Try.pinned (OpenSpec.ofChange backfillApartWrong)

/-- 'gangerlaw15.BackfillEarliest': WHATEVER THE INPUT: true; the input reads as it did. -/
def backfillEarliestSpec : ChangeSpec := { name := "backfillEarliest", fn := fun _ => fun
  | [d1, d2, d3, d4] => { results := [.lit (.bool true)], args := [d1, d2, d3, d4] }
  | _ => none }
def backfillEarliestRow : OpenClaim := { program := "ytipfamkhplkpmaa", sum := "a8c182296bf95c1e63e4b8a58af514fbc883b72ac432baf21adccd3b207843c4", func := "ganger/gangerlaw15.BackfillEarliest", spec := "backfillEarliest", unfollowed := true, recurses := true, apart := false }
def BackfillEarliestSaid : Prop := backfillEarliestRow.holds Try.pinned (OpenSpec.ofChange backfillEarliestSpec)

/-- ITS FALSE NEIGHBOUR: 'it returns false'. Refute it at one input. -/
def backfillEarliestWrong : ChangeSpec := { name := "backfillEarliest", fn := fun _ => fun
  | [d1, d2, d3, d4] => { results := [.lit (.bool false)], args := [d1, d2, d3, d4] }
  | _ => none }
def BackfillEarliestWrongFalsely : Prop := backfillEarliestRow.holds Try.pinned (OpenSpec.ofChange backfillEarliestWrong)

/-- 'gangerlaw15.BackfillScenes': WHATEVER THE INPUT: true; the input reads as it did. -/
def backfillScenesSpec : ChangeSpec := { name := "backfillScenes", fn := fun _ => fun
  | [d1, d2, d3, d4] => { results := [.lit (.bool true)], args := [d1, d2, d3, d4] }
  | _ => none }
def backfillScenesRow : OpenClaim := { program := "ytipfamkhplkpmaa", sum := "a8c182296bf95c1e63e4b8a58af514fbc883b72ac432baf21adccd3b207843c4", func := "ganger/gangerlaw15.BackfillScenes", spec := "backfillScenes", unfollowed := true, recurses := true, apart := false }
def BackfillScenesSaid : Prop := backfillScenesRow.holds Try.pinned (OpenSpec.ofChange backfillScenesSpec)

/-- ITS FALSE NEIGHBOUR: 'it returns false'. Refute it at one input. -/
def backfillScenesWrong : ChangeSpec := { name := "backfillScenes", fn := fun _ => fun
  | [d1, d2, d3, d4] => { results := [.lit (.bool false)], args := [d1, d2, d3, d4] }
  | _ => none }
def BackfillScenesWrongFalsely : Prop := backfillScenesRow.holds Try.pinned (OpenSpec.ofChange backfillScenesWrong)

/-- 'gangerlaw15.BackfillHead': WHATEVER THE INPUT: true; the input reads as it did. -/
def backfillHeadSpec : ChangeSpec := { name := "backfillHead", fn := fun _ => fun
  | [d1, d2, d3] => { results := [.lit (.bool true)], args := [d1, d2, d3] }
  | _ => none }
def backfillHeadRow : OpenClaim := { program := "ytipfamkhplkpmaa", sum := "a8c182296bf95c1e63e4b8a58af514fbc883b72ac432baf21adccd3b207843c4", func := "ganger/gangerlaw15.BackfillHead", spec := "backfillHead", unfollowed := true, recurses := true, apart := false }
def BackfillHeadSaid : Prop := backfillHeadRow.holds Try.pinned (OpenSpec.ofChange backfillHeadSpec)

/-- ITS FALSE NEIGHBOUR: 'it returns false'. Refute it at one input. -/
def backfillHeadWrong : ChangeSpec := { name := "backfillHead", fn := fun _ => fun
  | [d1, d2, d3] => { results := [.lit (.bool false)], args := [d1, d2, d3] }
  | _ => none }
def BackfillHeadWrongFalsely : Prop := backfillHeadRow.holds Try.pinned (OpenSpec.ofChange backfillHeadWrong)

/-- 'gangerlaw15.BackfillTick': WHATEVER THE INPUT: true; the input reads as it did. -/
def backfillTickSpec : ChangeSpec := { name := "backfillTick", fn := fun _ => fun
  | [d1, d2, d3, d4, d5, d6] => { results := [.lit (.bool true)], args := [d1, d2, d3, d4, d5, d6] }
  | _ => none }
def backfillTickRow : OpenClaim := { program := "ytipfamkhplkpmaa", sum := "a8c182296bf95c1e63e4b8a58af514fbc883b72ac432baf21adccd3b207843c4", func := "ganger/gangerlaw15.BackfillTick", spec := "backfillTick", unfollowed := true, recurses := true, apart := false }
def BackfillTickSaid : Prop := backfillTickRow.holds Try.pinned (OpenSpec.ofChange backfillTickSpec)

/-- ITS FALSE NEIGHBOUR: 'it returns false'. Refute it at one input. -/
def backfillTickWrong : ChangeSpec := { name := "backfillTick", fn := fun _ => fun
  | [d1, d2, d3, d4, d5, d6] => { results := [.lit (.bool false)], args := [d1, d2, d3, d4, d5, d6] }
  | _ => none }
def BackfillTickWrongFalsely : Prop := backfillTickRow.holds Try.pinned (OpenSpec.ofChange backfillTickWrong)

/- THE SECOND FORM. 'bulk': how many values and letters a reading holds, each counted each time it is reached (what is shared counts as often as it is met; a slice's spare places count too). A statement '..UptoSaid' is the law's where the arguments, and the package variables that the reading takes, are together of bulk at most 1048576: NARROWER than '..Said'. Prove '..Said' where nothing that the law and all that it calls make is longer than what came in: it says more and counts as full. Else prove '..UptoSaid'. A law counts once. -/
mutual
def uptoBulk {H : Type} : DataW H → Nat
  | .lit (.string bytes) => bytes.length + 1
  | .lit _ => 1
  | .nil => 1
  | .ptr d => uptoBulk d + 1
  | .slice elems spare => uptoBulkAll elems + uptoBulkAll spare + 1
  | .agg parts => uptoBulkAll parts + 1
  | .iface _ d => uptoBulk d + 1
  | .map entries => uptoBulkEntries entries + 1
  | .held _ => 1
def uptoBulkAll {H : Type} : List (DataW H) → Nat
  | [] => 0
  | d :: r => uptoBulk d + uptoBulkAll r
def uptoBulkEntries {H : Type} : List (Lit × DataW H) → Nat
  | [] => 0
  | x :: r => uptoBulkEntry x + uptoBulkEntries r
def uptoBulkEntry {H : Type} : Lit × DataW H → Nat
  | (.string bytes, d) => bytes.length + uptoBulk d + 1
  | (_, d) => uptoBulk d + 1
 end
def uptoSmall : (H : Type) → List (DataW H) → Bool := fun _ ds => decide (uptoBulkAll ds ≤ 1048576)
def OpenSpec.upto (s : _root_.Go.ChangeSpec) : _root_.Go.OpenSpec := { _root_.Go.OpenSpec.ofChange s with cond := some uptoSmall }

/-- 'gangerlaw15.BackfillApart', WHERE WHAT IT READS IS OF BULK AT MOST 1048576: true; the input reads as it did. -/
def backfillApartUptoRow : OpenClaim := { program := "ytipfamkhplkpmaa", sum := "a8c182296bf95c1e63e4b8a58af514fbc883b72ac432baf21adccd3b207843c4", func := "ganger/gangerlaw15.BackfillApart", spec := "backfillApart", unfollowed := true, recurses := true, apart := false, narrowed := true }
def BackfillApartUptoSaid : Prop := backfillApartUptoRow.holds Try.pinned (OpenSpec.upto backfillApartSpec)

/-- 'gangerlaw15.BackfillEarliest', WHERE WHAT IT READS IS OF BULK AT MOST 1048576: true; the input reads as it did. -/
def backfillEarliestUptoRow : OpenClaim := { program := "ytipfamkhplkpmaa", sum := "a8c182296bf95c1e63e4b8a58af514fbc883b72ac432baf21adccd3b207843c4", func := "ganger/gangerlaw15.BackfillEarliest", spec := "backfillEarliest", unfollowed := true, recurses := true, apart := false, narrowed := true }
def BackfillEarliestUptoSaid : Prop := backfillEarliestUptoRow.holds Try.pinned (OpenSpec.upto backfillEarliestSpec)

/-- 'gangerlaw15.BackfillScenes', WHERE WHAT IT READS IS OF BULK AT MOST 1048576: true; the input reads as it did. -/
def backfillScenesUptoRow : OpenClaim := { program := "ytipfamkhplkpmaa", sum := "a8c182296bf95c1e63e4b8a58af514fbc883b72ac432baf21adccd3b207843c4", func := "ganger/gangerlaw15.BackfillScenes", spec := "backfillScenes", unfollowed := true, recurses := true, apart := false, narrowed := true }
def BackfillScenesUptoSaid : Prop := backfillScenesUptoRow.holds Try.pinned (OpenSpec.upto backfillScenesSpec)

/-- 'gangerlaw15.BackfillHead', WHERE WHAT IT READS IS OF BULK AT MOST 1048576: true; the input reads as it did. -/
def backfillHeadUptoRow : OpenClaim := { program := "ytipfamkhplkpmaa", sum := "a8c182296bf95c1e63e4b8a58af514fbc883b72ac432baf21adccd3b207843c4", func := "ganger/gangerlaw15.BackfillHead", spec := "backfillHead", unfollowed := true, recurses := true, apart := false, narrowed := true }
def BackfillHeadUptoSaid : Prop := backfillHeadUptoRow.holds Try.pinned (OpenSpec.upto backfillHeadSpec)

/-- 'gangerlaw15.BackfillTick', WHERE WHAT IT READS IS OF BULK AT MOST 1048576: true; the input reads as it did. -/
def backfillTickUptoRow : OpenClaim := { program := "ytipfamkhplkpmaa", sum := "a8c182296bf95c1e63e4b8a58af514fbc883b72ac432baf21adccd3b207843c4", func := "ganger/gangerlaw15.BackfillTick", spec := "backfillTick", unfollowed := true, recurses := true, apart := false, narrowed := true }
def BackfillTickUptoSaid : Prop := backfillTickUptoRow.holds Try.pinned (OpenSpec.upto backfillTickSpec)

end Rows
end Go.Proofs.Ytipfamkhplkpmaa
