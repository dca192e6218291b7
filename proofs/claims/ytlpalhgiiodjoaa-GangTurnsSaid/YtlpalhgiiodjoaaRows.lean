/-
  No cell of these rows narrows 'for every input' (looked for: loops, veiled, ifaces, maps, wideKeys, modest, calm, conditions, laid).
  DERIVED. THE GIVEN ROWS OF THIS SEAT. 7 by the template 'for every input the law returns true; each argument reads behind the call as it read before'; 0 by the template 'total and deterministic' (their statements: YtlpalhgiiodjoaaTotals.lean).
  GIVEN WITH THE SEED: the statements are not yours to turn. If you find one false, say at which input.
  Laid BY PROGRAM, IN A SANDBOX (cutbox-rows.mjs): the forced cells as the released guide's own fill.sh prints them over the translation b0ff01bad601d432… (all of the seat's roots in one cut). By AI agents, Wed Nov 11 2026. No macro, syntax, notation, axiom, sorry.
-/
import Derived.Test.YtlpalhgiiodjoaaChecked
import GoSem.Claim
import GoSem.ClaimJoined
import GoSem.ClaimMapViews
import Derived.JoinedTies
import Derived.KernelRfl
namespace Go.Proofs.Ytlpalhgiiodjoaa
/- THE CELL 'sum', in the pinned program and in every row, IS THE sha256 OF THE DUMP (.gsa) THAT YtlpalhgiiodjoaaProg.lean LOADS. Nothing in Lean hashes anything: it is a label: what it is worth is what the hold of that sum in a sandbox is worth. -/
noncomputable def Try.pinned : Pinned := { name := "ytlpalhgiiodjoaa", sum := "b0ff01bad601d4329b75da7713688d81992f2e69e83d3baf5869fdeb0b4d4b3f", checked := Try.checked }
namespace Rows
def none {H : Type} : Left H := { results := [], args := [] }

/-- 'gangerlaw16.GangRuns': WHATEVER THE INPUT: true; the input reads as it did. -/
def gangRunsSpec : ChangeSpec := { name := "gangRuns", fn := fun _ => fun
  | [d] => { results := [.lit (.bool true)], args := [d] }
  | _ => none }
def gangRunsRow : OpenClaim := { program := "ytlpalhgiiodjoaa", sum := "b0ff01bad601d4329b75da7713688d81992f2e69e83d3baf5869fdeb0b4d4b3f", func := "ganger/gangerlaw16.GangRuns", spec := "gangRuns", unfollowed := true, recurses := true, apart := false }
def GangRunsSaid : Prop := gangRunsRow.holds Try.pinned (OpenSpec.ofChange gangRunsSpec)

/-- ITS FALSE NEIGHBOUR: 'it returns false'. Refute it at one input. -/
def gangRunsWrong : ChangeSpec := { name := "gangRuns", fn := fun _ => fun
  | [d] => { results := [.lit (.bool false)], args := [d] }
  | _ => none }
def GangRunsWrongFalsely : Prop := gangRunsRow.holds Try.pinned (OpenSpec.ofChange gangRunsWrong)

/-- 'gangerlaw16.GangTurns': WHATEVER THE INPUT: true; the input reads as it did. -/
def gangTurnsSpec : ChangeSpec := { name := "gangTurns", fn := fun _ => fun
  | [d] => { results := [.lit (.bool true)], args := [d] }
  | _ => none }
def gangTurnsRow : OpenClaim := { program := "ytlpalhgiiodjoaa", sum := "b0ff01bad601d4329b75da7713688d81992f2e69e83d3baf5869fdeb0b4d4b3f", func := "ganger/gangerlaw16.GangTurns", spec := "gangTurns", unfollowed := true, recurses := true, apart := false }
def GangTurnsSaid : Prop := gangTurnsRow.holds Try.pinned (OpenSpec.ofChange gangTurnsSpec)

/-- ITS FALSE NEIGHBOUR: 'it returns false'. Refute it at one input. -/
def gangTurnsWrong : ChangeSpec := { name := "gangTurns", fn := fun _ => fun
  | [d] => { results := [.lit (.bool false)], args := [d] }
  | _ => none }
def GangTurnsWrongFalsely : Prop := gangTurnsRow.holds Try.pinned (OpenSpec.ofChange gangTurnsWrong)

/-- 'gangerlaw16.GangUnify': WHATEVER THE INPUT: true; the input reads as it did. -/
def gangUnifySpec : ChangeSpec := { name := "gangUnify", fn := fun _ => fun
  | [d] => { results := [.lit (.bool true)], args := [d] }
  | _ => none }
def gangUnifyRow : OpenClaim := { program := "ytlpalhgiiodjoaa", sum := "b0ff01bad601d4329b75da7713688d81992f2e69e83d3baf5869fdeb0b4d4b3f", func := "ganger/gangerlaw16.GangUnify", spec := "gangUnify", unfollowed := true, recurses := true, apart := false }
def GangUnifySaid : Prop := gangUnifyRow.holds Try.pinned (OpenSpec.ofChange gangUnifySpec)

/-- ITS FALSE NEIGHBOUR: 'it returns false'. Refute it at one input. -/
def gangUnifyWrong : ChangeSpec := { name := "gangUnify", fn := fun _ => fun
  | [d] => { results := [.lit (.bool false)], args := [d] }
  | _ => none }
def GangUnifyWrongFalsely : Prop := gangUnifyRow.holds Try.pinned (OpenSpec.ofChange gangUnifyWrong)

/-- 'gangerlaw16.GangFirst': WHATEVER THE INPUT: true; the input reads as it did. -/
def gangFirstSpec : ChangeSpec := { name := "gangFirst", fn := fun _ => fun
  | [d1, d2, d3] => { results := [.lit (.bool true)], args := [d1, d2, d3] }
  | _ => none }
def gangFirstRow : OpenClaim := { program := "ytlpalhgiiodjoaa", sum := "b0ff01bad601d4329b75da7713688d81992f2e69e83d3baf5869fdeb0b4d4b3f", func := "ganger/gangerlaw16.GangFirst", spec := "gangFirst", unfollowed := true, recurses := true, apart := false }
def GangFirstSaid : Prop := gangFirstRow.holds Try.pinned (OpenSpec.ofChange gangFirstSpec)

/-- ITS FALSE NEIGHBOUR: 'it returns false'. Refute it at one input. -/
def gangFirstWrong : ChangeSpec := { name := "gangFirst", fn := fun _ => fun
  | [d1, d2, d3] => { results := [.lit (.bool false)], args := [d1, d2, d3] }
  | _ => none }
def GangFirstWrongFalsely : Prop := gangFirstRow.holds Try.pinned (OpenSpec.ofChange gangFirstWrong)

/-- 'gangerlaw16.GangPlays': WHATEVER THE INPUT: true; the input reads as it did. -/
def gangPlaysSpec : ChangeSpec := { name := "gangPlays", fn := fun _ => fun
  | [d1, d2, d3] => { results := [.lit (.bool true)], args := [d1, d2, d3] }
  | _ => none }
def gangPlaysRow : OpenClaim := { program := "ytlpalhgiiodjoaa", sum := "b0ff01bad601d4329b75da7713688d81992f2e69e83d3baf5869fdeb0b4d4b3f", func := "ganger/gangerlaw16.GangPlays", spec := "gangPlays", unfollowed := true, recurses := true, apart := false }
def GangPlaysSaid : Prop := gangPlaysRow.holds Try.pinned (OpenSpec.ofChange gangPlaysSpec)

/-- ITS FALSE NEIGHBOUR: 'it returns false'. Refute it at one input. -/
def gangPlaysWrong : ChangeSpec := { name := "gangPlays", fn := fun _ => fun
  | [d1, d2, d3] => { results := [.lit (.bool false)], args := [d1, d2, d3] }
  | _ => none }
def GangPlaysWrongFalsely : Prop := gangPlaysRow.holds Try.pinned (OpenSpec.ofChange gangPlaysWrong)

/-- 'gangerlaw16.GangRows': WHATEVER THE INPUT: true; the input reads as it did. -/
def gangRowsSpec : ChangeSpec := { name := "gangRows", fn := fun _ => fun
  | [d] => { results := [.lit (.bool true)], args := [d] }
  | _ => none }
def gangRowsRow : OpenClaim := { program := "ytlpalhgiiodjoaa", sum := "b0ff01bad601d4329b75da7713688d81992f2e69e83d3baf5869fdeb0b4d4b3f", func := "ganger/gangerlaw16.GangRows", spec := "gangRows", unfollowed := true, recurses := true, apart := false }
def GangRowsSaid : Prop := gangRowsRow.holds Try.pinned (OpenSpec.ofChange gangRowsSpec)

/-- ITS FALSE NEIGHBOUR: 'it returns false'. Refute it at one input. -/
def gangRowsWrong : ChangeSpec := { name := "gangRows", fn := fun _ => fun
  | [d] => { results := [.lit (.bool false)], args := [d] }
  | _ => none }
def GangRowsWrongFalsely : Prop := gangRowsRow.holds Try.pinned (OpenSpec.ofChange gangRowsWrong)

/-- 'gangerlaw16.GangNil': WHATEVER THE INPUT: true; the input reads as it did. -/
def gangNilSpec : ChangeSpec := { name := "gangNil", fn := fun _ => fun
  | [d1, d2] => { results := [.lit (.bool true)], args := [d1, d2] }
  | _ => none }
def gangNilRow : OpenClaim := { program := "ytlpalhgiiodjoaa", sum := "b0ff01bad601d4329b75da7713688d81992f2e69e83d3baf5869fdeb0b4d4b3f", func := "ganger/gangerlaw16.GangNil", spec := "gangNil", unfollowed := true, recurses := true, apart := false }
def GangNilSaid : Prop := gangNilRow.holds Try.pinned (OpenSpec.ofChange gangNilSpec)

/-- ITS FALSE NEIGHBOUR: 'it returns false'. Refute it at one input. -/
def gangNilWrong : ChangeSpec := { name := "gangNil", fn := fun _ => fun
  | [d1, d2] => { results := [.lit (.bool false)], args := [d1, d2] }
  | _ => none }
def GangNilWrongFalsely : Prop := gangNilRow.holds Try.pinned (OpenSpec.ofChange gangNilWrong)

/- THE SECOND FORM. 'bulk': how many values and letters a reading holds, each counted each time it is reached (what is shared counts as often as it is met; a slice's spare places count too). A statement '..UptoSaid' is the law's where the arguments, and the package variables that the reading takes, are together of bulk at most 1048576: NARROWER than '..Said'. Prove '..Said' where nothing that the law and all that it calls make is longer than what came in: it says more and counts as full. Else prove '..UptoSaid'. A law counts once. -/
mutual
def uptoBulk {H : Type} : DataW H → Nat
  | .lit (.string bytes) => bytes.length + 1
  | .lit _ => 1
  | .nil => 1
  | .ptr d => uptoBulk d + 1
  | .slice elems spare => uptoBulkAll elems + uptoBulkAll spare + 1
  | .agg parts => uptoBulkAll parts + 1
  | .iface _ d => uptoBulk d + 1
  | .map entries => uptoBulkEntries entries + 1
  | .held _ => 1
def uptoBulkAll {H : Type} : List (DataW H) → Nat
  | [] => 0
  | d :: r => uptoBulk d + uptoBulkAll r
def uptoBulkEntries {H : Type} : List (Lit × DataW H) → Nat
  | [] => 0
  | x :: r => uptoBulkEntry x + uptoBulkEntries r
def uptoBulkEntry {H : Type} : Lit × DataW H → Nat
  | (.string bytes, d) => bytes.length + uptoBulk d + 1
  | (_, d) => uptoBulk d + 1
 end
def uptoSmall : (H : Type) → List (DataW H) → Bool := fun _ ds => decide (uptoBulkAll ds ≤ 1048576)
def OpenSpec.upto (s : _root_.Go.ChangeSpec) : _root_.Go.OpenSpec := { _root_.Go.OpenSpec.ofChange s with cond := some uptoSmall }

/-- 'gangerlaw16.GangRuns', WHERE WHAT IT READS IS OF BULK AT MOST 1048576: true; the input reads as it did. -/
def gangRunsUptoRow : OpenClaim := { program := "ytlpalhgiiodjoaa", sum := "b0ff01bad601d4329b75da7713688d81992f2e69e83d3baf5869fdeb0b4d4b3f", func := "ganger/gangerlaw16.GangRuns", spec := "gangRuns", unfollowed := true, recurses := true, apart := false, narrowed := true }
def GangRunsUptoSaid : Prop := gangRunsUptoRow.holds Try.pinned (OpenSpec.upto gangRunsSpec)

/-- 'gangerlaw16.GangTurns', WHERE WHAT IT READS IS OF BULK AT MOST 1048576: true; the input reads as it did. -/
def gangTurnsUptoRow : OpenClaim := { program := "ytlpalhgiiodjoaa", sum := "b0ff01bad601d4329b75da7713688d81992f2e69e83d3baf5869fdeb0b4d4b3f", func := "ganger/gangerlaw16.GangTurns", spec := "gangTurns", unfollowed := true, recurses := true, apart := false, narrowed := true }
def GangTurnsUptoSaid : Prop := gangTurnsUptoRow.holds Try.pinned (OpenSpec.upto gangTurnsSpec)

/-- 'gangerlaw16.GangUnify', WHERE WHAT IT READS IS OF BULK AT MOST 1048576: true; the input reads as it did. -/
def gangUnifyUptoRow : OpenClaim := { program := "ytlpalhgiiodjoaa", sum := "b0ff01bad601d4329b75da7713688d81992f2e69e83d3baf5869fdeb0b4d4b3f", func := "ganger/gangerlaw16.GangUnify", spec := "gangUnify", unfollowed := true, recurses := true, apart := false, narrowed := true }
def GangUnifyUptoSaid : Prop := gangUnifyUptoRow.holds Try.pinned (OpenSpec.upto gangUnifySpec)

/-- 'gangerlaw16.GangFirst', WHERE WHAT IT READS IS OF BULK AT MOST 1048576: true; the input reads as it did. -/
def gangFirstUptoRow : OpenClaim := { program := "ytlpalhgiiodjoaa", sum := "b0ff01bad601d4329b75da7713688d81992f2e69e83d3baf5869fdeb0b4d4b3f", func := "ganger/gangerlaw16.GangFirst", spec := "gangFirst", unfollowed := true, recurses := true, apart := false, narrowed := true }
def GangFirstUptoSaid : Prop := gangFirstUptoRow.holds Try.pinned (OpenSpec.upto gangFirstSpec)

/-- 'gangerlaw16.GangPlays', WHERE WHAT IT READS IS OF BULK AT MOST 1048576: true; the input reads as it did. -/
def gangPlaysUptoRow : OpenClaim := { program := "ytlpalhgiiodjoaa", sum := "b0ff01bad601d4329b75da7713688d81992f2e69e83d3baf5869fdeb0b4d4b3f", func := "ganger/gangerlaw16.GangPlays", spec := "gangPlays", unfollowed := true, recurses := true, apart := false, narrowed := true }
def GangPlaysUptoSaid : Prop := gangPlaysUptoRow.holds Try.pinned (OpenSpec.upto gangPlaysSpec)

/-- 'gangerlaw16.GangRows', WHERE WHAT IT READS IS OF BULK AT MOST 1048576: true; the input reads as it did. -/
def gangRowsUptoRow : OpenClaim := { program := "ytlpalhgiiodjoaa", sum := "b0ff01bad601d4329b75da7713688d81992f2e69e83d3baf5869fdeb0b4d4b3f", func := "ganger/gangerlaw16.GangRows", spec := "gangRows", unfollowed := true, recurses := true, apart := false, narrowed := true }
def GangRowsUptoSaid : Prop := gangRowsUptoRow.holds Try.pinned (OpenSpec.upto gangRowsSpec)

/-- 'gangerlaw16.GangNil', WHERE WHAT IT READS IS OF BULK AT MOST 1048576: true; the input reads as it did. -/
def gangNilUptoRow : OpenClaim := { program := "ytlpalhgiiodjoaa", sum := "b0ff01bad601d4329b75da7713688d81992f2e69e83d3baf5869fdeb0b4d4b3f", func := "ganger/gangerlaw16.GangNil", spec := "gangNil", unfollowed := true, recurses := true, apart := false, narrowed := true }
def GangNilUptoSaid : Prop := gangNilUptoRow.holds Try.pinned (OpenSpec.upto gangNilSpec)

end Rows
end Go.Proofs.Ytlpalhgiiodjoaa
