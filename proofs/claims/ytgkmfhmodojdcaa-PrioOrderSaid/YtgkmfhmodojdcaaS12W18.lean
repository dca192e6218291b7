/- Priorities: function 18, by its contract. -/
import Derived.Test.YtgkmfhmodojdcaaS12W17
set_option linter.all false
namespace Go.Proofs.YtgkmfhmodojdcaaE
open Go Go.Proofs
set_option maxRecDepth 100000
set_option linter.unusedVariables false
def F18 (K : Nat) (a0 : El T26) (a1 : El T29) (a2 a3 : Int) : Option (Int × Int) := if 0 ≤ a1.1 ∧ a1.2.2.2.2.1 ≤ 9223372036854775807 ∧ a1.2.2.2.2.2.1 ≤ 9223372036854775807 then some (pS a0 a1 a2 a3) else none
theorem ok18 (K : Nat) : RowOK False Try.prog 18 (row ad18 dq18 fun p => F18 K p.1 p.2.1 p.2.2.1 p.2.2.2) := row_ok fun x r h => by
  obtain ⟨a0, a1, a2, a3⟩ := x
  unfold F18 at h
  split at h
  · rename_i hc
    cases h
    refine has_low rfl ?_
    intro S w vals hV
    have hV' : VsOK (fun _ => undef) S w [.agg (cellsOf T26 a0), .agg (cellsOf T29 a1), I .i64 a2, I .i64 a3] vals := hV
    obtain ⟨v0, l0, rfl, ⟨c0, rfl, h0⟩, v1, l1, rfl, ⟨c1, rfl, h1⟩, v2, l2, rfl, rfl, v3, l3, rfl, rfl, h4⟩ := hV'
    rw [VsOK] at h4
    subst h4
    obtain ⟨_, _, rfl, rfl, _, _, rfl, rfl, _, _, rfl, rfl, _, _, rfl, rfl, _, _, rfl, rfl, e0⟩ := h0
    rw [VsOK] at e0
    subst e0
    obtain ⟨_, _, rfl, rfl, _, _, rfl, rfl, _, _, rfl, rfl, _, _, rfl, rfl, _, _, rfl, rfl, _, _, rfl, rfl, _, _, rfl, rfl, e1⟩ := h1
    rw [VsOK] at e1
    subst e1
    obtain ⟨k, hk⟩ := (Ytgkmfhmodojdcaa.Num.ref_prio _ _ _ _ _ _ _ _ _ _ _ _ (now := a2) (all := a3) hc.1 hc.2.1 hc.2.2).rounds
    refine ⟨.tuple #[.int .i64 (pS a0 a1 a2 a3).1, .int .i64 (pS a0 a1 a2 a3).2], fun S' w' u id => ⟨_, rfl, _, _, rfl, rfl, _, _, rfl, rfl, rfl⟩, ?_⟩
    exact Ytgkmfhmodojdcaa.PQ.gangerref12_Prio.calls k _ _ _ _ _ _ _ _ _ _ _ _ a2 a3 _ _ w hk
  · cases h
end Go.Proofs.YtgkmfhmodojdcaaE
