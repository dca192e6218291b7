/- Each worker is in just one block, or failed, for every input. -/
import Derived.Test.YtiicginipjbloaaRows
import Derived.Test.YtiicginipjbloaaP04Y
import Derived.WalkKit
import Derived.ProofKit
import Derived.OpenShut
import Derived.ShutString
import Derived.ChangeOld
import Derived.Below
import Derived.SizedLaws
import Derived.Test.YtiicginipjbloaaEng16
set_option linter.all false
namespace Go.Proofs.Ytiicginipjbloaa.buddyWhole
open Go.ChangeShapes Go.WideShapes Go.ChangeAt Go.RowKit Go.Proofs.YtiicginipjbloaaE
set_option linter.unusedVariables false
theorem own : ownKnob Try.prog.godebug = none := by kernel_rfl
theorem laidOut : laidOutB Try.prog = true := by kernel_rfl
theorem ok0 : okTy Try.prog 20 22 (.sl T57) = true := by kernel_rfl
set_option maxRecDepth 100000 in
theorem lifted (os : Os) (started : os.Started) (H : Type) (enc : TypeId × Value → H) :
    ReturnsInHanded {} Try.checked os 7 .any (Rows.buddyWholeSpec.pre6 enc Try.prog Try.f7 Rows.buddyWholeRow.domain false) (Rows.buddyWholeSpec.post enc Try.prog Try.f7 false true false false) := by
  refine returnsInHanded_of_change_sized (C := Try.checked) own started (by kernel_rfl) Try.func7
    (ChangeSpec.witness6 (enc := enc) (C := Try.checked) false ⟨#[], #[.slice none 0 0], []⟩ 8 (by kernel_rfl) (by kernel_rfl) (by kernel_rfl) (by kernel_rfl)) ?_
  intro W base args ds gs before hval0 hW hcnd hsz0 _
  have hsz : (DataW.weightsEach Try.prog (Try.f7.params.toList ++ Rows.buddyWholeSpec.plain.varTypes Try.prog) (ds ++ gs)).all (· ≤ reachBytes) = true := hsz0
  have hval : ∀ (j : Nat) t v, Try.f7.params[j]? = some t → args[j]? = some v → Value.okWide Try.prog W .any base t v := hval0
  have hW' := hW
  obtain ⟨p, q, hA0, hV, rfl, hfz, hnd⟩ := hW
  have hA : DataW.TrodAll enc Try.prog W 0 (fun _ => true) true Try.f7.params.toList args.toList ds p := hA0
  rw [Try.params7] at hA hval hsz
  obtain ⟨v0, vs0, d0, ds0, p0, q0, hargs, rfl, rfl, h0, r0⟩ := trodAll_cons hA
  obtain ⟨rfl, rfl, rfl⟩ := trodAll_nil r0
  obtain rfl : args = #[v0] := by cases args; simp_all
  obtain ⟨rfl, rfl⟩ := trodVars_none hV
  have k0 := h0
  have lt0 : ∀ x ∈ p0, x.block < W.heap.size := by obtain ⟨m, hm⟩ := k0; exact DataW.trod_lt m _ _ _ hm
  obtain ⟨a0, e0, g0⟩ := open_row ok0 Try.underlying22 (hval 0 22 v0 rfl rfl) h0 (weigh hsz (j := 0) (t := 22) rfl rfl)
  clear hA0 hval0 hsz0 hsz
  have hp := buddyWhole a0 g0
  have hh : Has False Try.prog 7 (ad7.f a0) dq7 true := has_of (cok7 _) Try.func7 ((ev7 (F11 _) (F12 _) (F19 _) (F21 _) (F16 _) (F15 _) _ a0).trans hp)
  refine (law_calls rfl hh (vs := [v0]) ⟨_, _, rfl, e0, rfl⟩).mono ?_
  rintro e W' ⟨rfl, bel⟩
  exact ⟨_, rfl, _, _, _, [], _, [], hW', trodAll_mk1 (shut_bool Try.underlying4 _), (trodAll_cons_mk (Below.trod laidOut (by kernel_rfl) (of_decide_eq_true (by kernel_rfl)) k0 bel lt0) trodAll_mk0), rfl, bel.frame _, fun h => by cases h⟩
theorem over : Rows.buddyWholeRow.holds Try.pinned (OpenSpec.ofChange Rows.buddyWholeSpec) :=
  OpenClaim.holds_of_wide 7 Try.f7 rfl rfl rfl rfl rfl rfl rfl ⟨rfl, rfl, rfl, rfl, rfl⟩ rfl rfl rfl rfl rfl (by kernel_rfl) Try.func7 (by kernel_rfl)
    (of_decide_eq_true (by kernel_rfl)) (by unfold Func.isWrapper; first | (rw [if_pos (by decide +kernel)]; kernel_rfl) | (rw [if_neg (by decide +kernel)]; exact ⟨rfl, rfl⟩))
    (fun os started H enc _ => lifted os started H enc)
theorem proved : Rows.BuddyWholeSaid := over
#print axioms proved
end Go.Proofs.Ytiicginipjbloaa.buddyWhole
namespace Go.Proofs.Ytiicginipjbloaa
/-- The row, under a short name, for the claim. -/
theorem buddyWhole_holds : Rows.BuddyWholeSaid := buddyWhole.proved
end Go.Proofs.Ytiicginipjbloaa
