/-
  No cell of these rows narrows 'for every input' (looked for: loops, veiled, ifaces, maps, wideKeys, modest, calm, conditions, laid).
  DERIVED. THE GIVEN ROWS OF THIS SEAT. 7 by the template 'for every input the law returns true; each argument reads behind the call as it read before'; 0 by the template 'total and deterministic' (their statements: YtgkmfhmodojdcaaTotals.lean).
  GIVEN WITH THE SEED: the statements are not yours to turn. If you find one false, say at which input.
  Laid BY PROGRAM, IN A SANDBOX (cutbox-rows.mjs): the forced cells as the released guide's own fill.sh prints them over the translation 1bbc01c3d6215216… (all of the seat's roots in one cut). By AI agents, Wed Nov 11 2026. No macro, syntax, notation, axiom, sorry.
-/
import Derived.Test.YtgkmfhmodojdcaaChecked
import GoSem.Claim
import GoSem.ClaimJoined
import GoSem.ClaimMapViews
import Derived.JoinedTies
import Derived.KernelRfl
namespace Go.Proofs.Ytgkmfhmodojdcaa
/- THE CELL 'sum', in the pinned program and in every row, IS THE sha256 OF THE DUMP (.gsa) THAT YtgkmfhmodojdcaaProg.lean LOADS. Nothing in Lean hashes anything: it is a label: what it is worth is what the hold of that sum in a sandbox is worth. -/
noncomputable def Try.pinned : Pinned := { name := "ytgkmfhmodojdcaa", sum := "1bbc01c3d6215216c1e1942d03dd90498fdcdc075d7569876f9a08645024ea64", checked := Try.checked }
namespace Rows
def none {H : Type} : Left H := { results := [], args := [] }

/-- 'gangerlaw12.PrioFactors': WHATEVER THE INPUT: true; the input reads as it did. -/
def prioFactorsSpec : ChangeSpec := { name := "prioFactors", fn := fun _ => fun
  | [d1, d2] => { results := [.lit (.bool true)], args := [d1, d2] }
  | _ => none }
def prioFactorsRow : OpenClaim := { program := "ytgkmfhmodojdcaa", sum := "1bbc01c3d6215216c1e1942d03dd90498fdcdc075d7569876f9a08645024ea64", func := "ganger/gangerlaw12.PrioFactors", spec := "prioFactors", named := ["math/bits.divideError", "math/bits.overflowError"], apart := false }
def PrioFactorsSaid : Prop := prioFactorsRow.holds Try.pinned (OpenSpec.ofChange prioFactorsSpec)

/-- ITS FALSE NEIGHBOUR: 'it returns false'. Refute it at one input. -/
def prioFactorsWrong : ChangeSpec := { name := "prioFactors", fn := fun _ => fun
  | [d1, d2] => { results := [.lit (.bool false)], args := [d1, d2] }
  | _ => none }
def PrioFactorsWrongFalsely : Prop := prioFactorsRow.holds Try.pinned (OpenSpec.ofChange prioFactorsWrong)

/-- 'gangerlaw12.PrioReckons': WHATEVER THE INPUT: true; the input reads as it did. -/
def prioReckonsSpec : ChangeSpec := { name := "prioReckons", fn := fun _ => fun
  | [d1, d2, d3, d4] => { results := [.lit (.bool true)], args := [d1, d2, d3, d4] }
  | _ => none }
def prioReckonsRow : OpenClaim := { program := "ytgkmfhmodojdcaa", sum := "1bbc01c3d6215216c1e1942d03dd90498fdcdc075d7569876f9a08645024ea64", func := "ganger/gangerlaw12.PrioReckons", spec := "prioReckons", named := ["math/bits.divideError", "math/bits.overflowError"], apart := false }
def PrioReckonsSaid : Prop := prioReckonsRow.holds Try.pinned (OpenSpec.ofChange prioReckonsSpec)

/-- ITS FALSE NEIGHBOUR: 'it returns false'. Refute it at one input. -/
def prioReckonsWrong : ChangeSpec := { name := "prioReckons", fn := fun _ => fun
  | [d1, d2, d3, d4] => { results := [.lit (.bool false)], args := [d1, d2, d3, d4] }
  | _ => none }
def PrioReckonsWrongFalsely : Prop := prioReckonsRow.holds Try.pinned (OpenSpec.ofChange prioReckonsWrong)

/-- 'gangerlaw12.PrioRises': WHATEVER THE INPUT: true; the input reads as it did. -/
def prioRisesSpec : ChangeSpec := { name := "prioRises", fn := fun _ => fun
  | [d1, d2, d3, d4, d5, d6] => { results := [.lit (.bool true)], args := [d1, d2, d3, d4, d5, d6] }
  | _ => none }
def prioRisesRow : OpenClaim := { program := "ytgkmfhmodojdcaa", sum := "1bbc01c3d6215216c1e1942d03dd90498fdcdc075d7569876f9a08645024ea64", func := "ganger/gangerlaw12.PrioRises", spec := "prioRises", named := ["math/bits.divideError", "math/bits.overflowError"], apart := false }
def PrioRisesSaid : Prop := prioRisesRow.holds Try.pinned (OpenSpec.ofChange prioRisesSpec)

/-- ITS FALSE NEIGHBOUR: 'it returns false'. Refute it at one input. -/
def prioRisesWrong : ChangeSpec := { name := "prioRises", fn := fun _ => fun
  | [d1, d2, d3, d4, d5, d6] => { results := [.lit (.bool false)], args := [d1, d2, d3, d4, d5, d6] }
  | _ => none }
def PrioRisesWrongFalsely : Prop := prioRisesRow.holds Try.pinned (OpenSpec.ofChange prioRisesWrong)

/-- 'gangerlaw12.PrioBound': WHATEVER THE INPUT: true; the input reads as it did. -/
def prioBoundSpec : ChangeSpec := { name := "prioBound", fn := fun _ => fun
  | [d1, d2, d3, d4] => { results := [.lit (.bool true)], args := [d1, d2, d3, d4] }
  | _ => none }
def prioBoundRow : OpenClaim := { program := "ytgkmfhmodojdcaa", sum := "1bbc01c3d6215216c1e1942d03dd90498fdcdc075d7569876f9a08645024ea64", func := "ganger/gangerlaw12.PrioBound", spec := "prioBound", named := ["math/bits.divideError", "math/bits.overflowError"], apart := false }
def PrioBoundSaid : Prop := prioBoundRow.holds Try.pinned (OpenSpec.ofChange prioBoundSpec)

/-- ITS FALSE NEIGHBOUR: 'it returns false'. Refute it at one input. -/
def prioBoundWrong : ChangeSpec := { name := "prioBound", fn := fun _ => fun
  | [d1, d2, d3, d4] => { results := [.lit (.bool false)], args := [d1, d2, d3, d4] }
  | _ => none }
def PrioBoundWrongFalsely : Prop := prioBoundRow.holds Try.pinned (OpenSpec.ofChange prioBoundWrong)

/-- 'gangerlaw12.PrioTurns': WHATEVER THE INPUT: true; the input reads as it did. -/
def prioTurnsSpec : ChangeSpec := { name := "prioTurns", fn := fun _ => fun
  | [d1, d2, d3, d4, d5] => { results := [.lit (.bool true)], args := [d1, d2, d3, d4, d5] }
  | _ => none }
def prioTurnsRow : OpenClaim := { program := "ytgkmfhmodojdcaa", sum := "1bbc01c3d6215216c1e1942d03dd90498fdcdc075d7569876f9a08645024ea64", func := "ganger/gangerlaw12.PrioTurns", spec := "prioTurns", unfollowed := true, recurses := true, named := ["math/bits.divideError", "math/bits.overflowError"], apart := false }
def PrioTurnsSaid : Prop := prioTurnsRow.holds Try.pinned (OpenSpec.ofChange prioTurnsSpec)

/-- ITS FALSE NEIGHBOUR: 'it returns false'. Refute it at one input. -/
def prioTurnsWrong : ChangeSpec := { name := "prioTurns", fn := fun _ => fun
  | [d1, d2, d3, d4, d5] => { results := [.lit (.bool false)], args := [d1, d2, d3, d4, d5] }
  | _ => none }
def PrioTurnsWrongFalsely : Prop := prioTurnsRow.holds Try.pinned (OpenSpec.ofChange prioTurnsWrong)

/-- 'gangerlaw12.PrioKeys': WHATEVER THE INPUT: true; the input reads as it did. -/
def prioKeysSpec : ChangeSpec := { name := "prioKeys", fn := fun _ => fun
  | [d1, d2, d3, d4] => { results := [.lit (.bool true)], args := [d1, d2, d3, d4] }
  | _ => none }
def prioKeysRow : OpenClaim := { program := "ytgkmfhmodojdcaa", sum := "1bbc01c3d6215216c1e1942d03dd90498fdcdc075d7569876f9a08645024ea64", func := "ganger/gangerlaw12.PrioKeys", spec := "prioKeys", unfollowed := true, recurses := true, named := ["math/bits.divideError", "math/bits.overflowError"], apart := false }
def PrioKeysSaid : Prop := prioKeysRow.holds Try.pinned (OpenSpec.ofChange prioKeysSpec)

/-- ITS FALSE NEIGHBOUR: 'it returns false'. Refute it at one input. -/
def prioKeysWrong : ChangeSpec := { name := "prioKeys", fn := fun _ => fun
  | [d1, d2, d3, d4] => { results := [.lit (.bool false)], args := [d1, d2, d3, d4] }
  | _ => none }
def PrioKeysWrongFalsely : Prop := prioKeysRow.holds Try.pinned (OpenSpec.ofChange prioKeysWrong)

/-- 'gangerlaw12.PrioOrder': WHATEVER THE INPUT: true; the input reads as it did. -/
def prioOrderSpec : ChangeSpec := { name := "prioOrder", fn := fun _ => fun
  | [d1, d2, d3, d4, d5, d6] => { results := [.lit (.bool true)], args := [d1, d2, d3, d4, d5, d6] }
  | _ => none }
def prioOrderRow : OpenClaim := { program := "ytgkmfhmodojdcaa", sum := "1bbc01c3d6215216c1e1942d03dd90498fdcdc075d7569876f9a08645024ea64", func := "ganger/gangerlaw12.PrioOrder", spec := "prioOrder", unfollowed := true, recurses := true, named := ["math/bits.divideError", "math/bits.overflowError"], apart := false }
def PrioOrderSaid : Prop := prioOrderRow.holds Try.pinned (OpenSpec.ofChange prioOrderSpec)

/-- ITS FALSE NEIGHBOUR: 'it returns false'. Refute it at one input. -/
def prioOrderWrong : ChangeSpec := { name := "prioOrder", fn := fun _ => fun
  | [d1, d2, d3, d4, d5, d6] => { results := [.lit (.bool false)], args := [d1, d2, d3, d4, d5, d6] }
  | _ => none }
def PrioOrderWrongFalsely : Prop := prioOrderRow.holds Try.pinned (OpenSpec.ofChange prioOrderWrong)

/- THE SECOND FORM. 'bulk': how many values and letters a reading holds, each counted each time it is reached (what is shared counts as often as it is met; a slice's spare places count too). A statement '..UptoSaid' is the law's where the arguments, and the package variables that the reading takes, are together of bulk at most 1048576: NARROWER than '..Said'. Prove '..Said' where nothing that the law and all that it calls make is longer than what came in: it says more and counts as full. Else prove '..UptoSaid'. A law counts once. -/
mutual
def uptoBulk {H : Type} : DataW H → Nat
  | .lit (.string bytes) => bytes.length + 1
  | .lit _ => 1
  | .nil => 1
  | .ptr d => uptoBulk d + 1
  | .slice elems spare => uptoBulkAll elems + uptoBulkAll spare + 1
  | .agg parts => uptoBulkAll parts + 1
  | .iface _ d => uptoBulk d + 1
  | .map entries => uptoBulkEntries entries + 1
  | .held _ => 1
def uptoBulkAll {H : Type} : List (DataW H) → Nat
  | [] => 0
  | d :: r => uptoBulk d + uptoBulkAll r
def uptoBulkEntries {H : Type} : List (Lit × DataW H) → Nat
  | [] => 0
  | x :: r => uptoBulkEntry x + uptoBulkEntries r
def uptoBulkEntry {H : Type} : Lit × DataW H → Nat
  | (.string bytes, d) => bytes.length + uptoBulk d + 1
  | (_, d) => uptoBulk d + 1
 end
def uptoSmall : (H : Type) → List (DataW H) → Bool := fun _ ds => decide (uptoBulkAll ds ≤ 1048576)
def OpenSpec.upto (s : _root_.Go.ChangeSpec) : _root_.Go.OpenSpec := { _root_.Go.OpenSpec.ofChange s with cond := some uptoSmall }

/-- 'gangerlaw12.PrioFactors', WHERE WHAT IT READS IS OF BULK AT MOST 1048576: true; the input reads as it did. -/
def prioFactorsUptoRow : OpenClaim := { program := "ytgkmfhmodojdcaa", sum := "1bbc01c3d6215216c1e1942d03dd90498fdcdc075d7569876f9a08645024ea64", func := "ganger/gangerlaw12.PrioFactors", spec := "prioFactors", named := ["math/bits.divideError", "math/bits.overflowError"], apart := false, narrowed := true }
def PrioFactorsUptoSaid : Prop := prioFactorsUptoRow.holds Try.pinned (OpenSpec.upto prioFactorsSpec)

/-- 'gangerlaw12.PrioReckons', WHERE WHAT IT READS IS OF BULK AT MOST 1048576: true; the input reads as it did. -/
def prioReckonsUptoRow : OpenClaim := { program := "ytgkmfhmodojdcaa", sum := "1bbc01c3d6215216c1e1942d03dd90498fdcdc075d7569876f9a08645024ea64", func := "ganger/gangerlaw12.PrioReckons", spec := "prioReckons", named := ["math/bits.divideError", "math/bits.overflowError"], apart := false, narrowed := true }
def PrioReckonsUptoSaid : Prop := prioReckonsUptoRow.holds Try.pinned (OpenSpec.upto prioReckonsSpec)

/-- 'gangerlaw12.PrioRises', WHERE WHAT IT READS IS OF BULK AT MOST 1048576: true; the input reads as it did. -/
def prioRisesUptoRow : OpenClaim := { program := "ytgkmfhmodojdcaa", sum := "1bbc01c3d6215216c1e1942d03dd90498fdcdc075d7569876f9a08645024ea64", func := "ganger/gangerlaw12.PrioRises", spec := "prioRises", named := ["math/bits.divideError", "math/bits.overflowError"], apart := false, narrowed := true }
def PrioRisesUptoSaid : Prop := prioRisesUptoRow.holds Try.pinned (OpenSpec.upto prioRisesSpec)

/-- 'gangerlaw12.PrioBound', WHERE WHAT IT READS IS OF BULK AT MOST 1048576: true; the input reads as it did. -/
def prioBoundUptoRow : OpenClaim := { program := "ytgkmfhmodojdcaa", sum := "1bbc01c3d6215216c1e1942d03dd90498fdcdc075d7569876f9a08645024ea64", func := "ganger/gangerlaw12.PrioBound", spec := "prioBound", named := ["math/bits.divideError", "math/bits.overflowError"], apart := false, narrowed := true }
def PrioBoundUptoSaid : Prop := prioBoundUptoRow.holds Try.pinned (OpenSpec.upto prioBoundSpec)

/-- 'gangerlaw12.PrioTurns', WHERE WHAT IT READS IS OF BULK AT MOST 1048576: true; the input reads as it did. -/
def prioTurnsUptoRow : OpenClaim := { program := "ytgkmfhmodojdcaa", sum := "1bbc01c3d6215216c1e1942d03dd90498fdcdc075d7569876f9a08645024ea64", func := "ganger/gangerlaw12.PrioTurns", spec := "prioTurns", unfollowed := true, recurses := true, named := ["math/bits.divideError", "math/bits.overflowError"], apart := false, narrowed := true }
def PrioTurnsUptoSaid : Prop := prioTurnsUptoRow.holds Try.pinned (OpenSpec.upto prioTurnsSpec)

/-- 'gangerlaw12.PrioKeys', WHERE WHAT IT READS IS OF BULK AT MOST 1048576: true; the input reads as it did. -/
def prioKeysUptoRow : OpenClaim := { program := "ytgkmfhmodojdcaa", sum := "1bbc01c3d6215216c1e1942d03dd90498fdcdc075d7569876f9a08645024ea64", func := "ganger/gangerlaw12.PrioKeys", spec := "prioKeys", unfollowed := true, recurses := true, named := ["math/bits.divideError", "math/bits.overflowError"], apart := false, narrowed := true }
def PrioKeysUptoSaid : Prop := prioKeysUptoRow.holds Try.pinned (OpenSpec.upto prioKeysSpec)

/-- 'gangerlaw12.PrioOrder', WHERE WHAT IT READS IS OF BULK AT MOST 1048576: true; the input reads as it did. -/
def prioOrderUptoRow : OpenClaim := { program := "ytgkmfhmodojdcaa", sum := "1bbc01c3d6215216c1e1942d03dd90498fdcdc075d7569876f9a08645024ea64", func := "ganger/gangerlaw12.PrioOrder", spec := "prioOrder", unfollowed := true, recurses := true, named := ["math/bits.divideError", "math/bits.overflowError"], apart := false, narrowed := true }
def PrioOrderUptoSaid : Prop := prioOrderUptoRow.holds Try.pinned (OpenSpec.upto prioOrderSpec)

end Rows
end Go.Proofs.Ytgkmfhmodojdcaa
