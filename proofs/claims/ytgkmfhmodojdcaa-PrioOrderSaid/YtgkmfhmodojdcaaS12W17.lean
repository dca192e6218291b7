/- Priorities: function 17, by its contract. -/
import Derived.Test.YtgkmfhmodojdcaaS12T
import Derived.Test.YtgkmfhmodojdcaaNum3
set_option linter.all false
namespace Go.Proofs.YtgkmfhmodojdcaaE
open Go Go.Proofs
set_option maxRecDepth 100000
set_option linter.unusedVariables false
/-- A contract of a function that leaves all as it was, as the engine takes it. -/
theorem has_low {P : Program} {g : FuncId} {args : List AV} {α : Type} {d : Dec α} {x : α} (hnb : d.nb x = none)
    (h : ∀ (S : Nat → Prop) (w : World) (vals : List Value), VsOK (fun _ => undef) S w args vals → ∃ v, (∀ (S' : Nat → Prop) (w' : World) (u : Value) (id : Nat), VOK (fun _ => u) S' w' (d.f x id) v) ∧
      Calls P g vals.toArray w fun e w' => e = .returned v ∧ RowKit.Below w.heap.size w w') : Has False P g args d x := by
  intro S w vals hS hV
  obtain ⟨v, hv, hc⟩ := h S w vals hV
  refine hc.mono ?_
  rintro e w' ⟨rfl, hb⟩
  refine ⟨v, undef, S, rfl, ⟨hb, fun h => h.elim⟩, fun b h => h, fun b h => ⟨.inl h, Nat.lt_of_lt_of_le (hS b h) hb.size⟩, fun id => hv S w' undef id, fun B hB => ?_⟩
  rw [hnb] at hB
  cases hB
/-- a job's priority, by what the chapter says -/
def pS (a : El T26) (b : El T29) (n m : Int) : Int × Int := Ytgkmfhmodojdcaa.Num.prioS a.1 a.2.1 a.2.2.1 a.2.2.2.1 a.2.2.2.2 b.1 b.2.1 b.2.2.1 b.2.2.2.1 b.2.2.2.2.1 b.2.2.2.2.2.1 b.2.2.2.2.2.2 n m
def F17 (K : Nat) (a0 : El T26) (a1 : El T29) (a2 a3 : Int) : Option (Int × Int) := if a1.2.2.2.2.1 ≤ 9223372036854775807 ∧ a1.2.2.2.2.2.1 ≤ 9223372036854775807 then some (pS a0 a1 a2 a3) else none
theorem ok17 (K : Nat) : RowOK False Try.prog 17 (row ad17 dq17 fun p => F17 K p.1 p.2.1 p.2.2.1 p.2.2.2) := row_ok fun x r h => by
  obtain ⟨a0, a1, a2, a3⟩ := x
  unfold F17 at h
  split at h
  · rename_i hc
    cases h
    refine has_low rfl ?_
    intro S w vals hV
    have hV' : VsOK (fun _ => undef) S w [.agg (cellsOf T26 a0), .agg (cellsOf T29 a1), I .i64 a2, I .i64 a3] vals := hV
    obtain ⟨v0, l0, rfl, ⟨c0, rfl, h0⟩, v1, l1, rfl, ⟨c1, rfl, h1⟩, v2, l2, rfl, rfl, v3, l3, rfl, rfl, h4⟩ := hV'
    rw [VsOK] at h4
    subst h4
    obtain ⟨_, _, rfl, rfl, _, _, rfl, rfl, _, _, rfl, rfl, _, _, rfl, rfl, _, _, rfl, rfl, e0⟩ := h0
    rw [VsOK] at e0
    subst e0
    obtain ⟨_, _, rfl, rfl, _, _, rfl, rfl, _, _, rfl, rfl, _, _, rfl, rfl, _, _, rfl, rfl, _, _, rfl, rfl, _, _, rfl, rfl, e1⟩ := h1
    rw [VsOK] at e1
    subst e1
    obtain ⟨k, hk⟩ := (Ytgkmfhmodojdcaa.Num.prio_prio _ _ _ _ _ _ _ _ _ _ _ _ (now := a2) (all := a3) hc.1 hc.2).rounds
    refine ⟨.tuple #[.int .i64 (pS a0 a1 a2 a3).1, .int .i64 (pS a0 a1 a2 a3).2], fun S' w' u id => ⟨_, rfl, _, _, rfl, rfl, _, _, rfl, rfl, rfl⟩, ?_⟩
    exact Ytgkmfhmodojdcaa.PQ.prio_Prio.calls k _ _ _ _ _ _ _ _ _ _ _ _ a2 a3 _ _ w hk
  · cases h
end Go.Proofs.YtgkmfhmodojdcaaE
