/- Priorities: function 16, by its contract. -/
import Derived.Test.YtgkmfhmodojdcaaS12W18
set_option linter.all false
namespace Go.Proofs.YtgkmfhmodojdcaaE
open Go Go.Proofs
set_option maxRecDepth 100000
set_option linter.unusedVariables false
def F16 (K : Nat) : Option Bool := some true
theorem ok16 (K : Nat) : RowOK False Try.prog 16 (row ad16 dq16 fun p => F16 K) := row_ok fun x r h => by
  cases h
  refine has_low rfl ?_
  intro S w vals hV
  have hV' : VsOK (fun _ => undef) S w [] vals := hV
  rw [VsOK] at hV'
  subst hV'
  obtain ⟨k, hk⟩ := Ytgkmfhmodojdcaa.Num.known_true.rounds
  exact ⟨.bool true, fun S' w' u id => rfl, Ytgkmfhmodojdcaa.PQ.gangerlaw12_known.calls k true w hk⟩
end Go.Proofs.YtgkmfhmodojdcaaE
