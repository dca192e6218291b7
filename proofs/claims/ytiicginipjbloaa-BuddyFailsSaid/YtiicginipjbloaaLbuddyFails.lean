/- What cannot be done leaves all as it was, for every input. -/
import Derived.Test.YtiicginipjbloaaRows
import Derived.Test.YtiicginipjbloaaP04O
import Derived.WalkKit
import Derived.ProofKit
import Derived.OpenShut
import Derived.ShutString
import Derived.ChangeOld
import Derived.Below
import Derived.SizedLaws
import Derived.Test.YtiicginipjbloaaEng16
set_option linter.all false
namespace Go.Proofs.Ytiicginipjbloaa.buddyFails
open Go.ChangeShapes Go.WideShapes Go.ChangeAt Go.RowKit Go.Proofs.YtiicginipjbloaaE
set_option linter.unusedVariables false
theorem own : ownKnob Try.prog.godebug = none := by kernel_rfl
theorem laidOut : laidOutB Try.prog = true := by kernel_rfl
theorem ok0 : okTy Try.prog 20 22 (.sl T57) = true := by kernel_rfl
theorem ok1 : okTy Try.prog 20 38 (.sl (.int .i64)) = true := by kernel_rfl
set_option maxRecDepth 100000 in
theorem lifted (os : Os) (started : os.Started) (H : Type) (enc : TypeId × Value → H) :
    ReturnsInHanded {} Try.checked os 8 .any (Rows.buddyFailsSpec.pre6 enc Try.prog Try.f8 Rows.buddyFailsRow.domain false) (Rows.buddyFailsSpec.post enc Try.prog Try.f8 false true false false) := by
  refine returnsInHanded_of_change_sized (C := Try.checked) own started (by kernel_rfl) Try.func8
    (ChangeSpec.witness6 (enc := enc) (C := Try.checked) false ⟨#[], #[.slice none 0 0, .slice none 0 0], []⟩ 8 (by kernel_rfl) (by kernel_rfl) (by kernel_rfl) (by kernel_rfl)) ?_
  intro W base args ds gs before hval0 hW hcnd hsz0 _
  have hsz : (DataW.weightsEach Try.prog (Try.f8.params.toList ++ Rows.buddyFailsSpec.plain.varTypes Try.prog) (ds ++ gs)).all (· ≤ reachBytes) = true := hsz0
  have hval : ∀ (j : Nat) t v, Try.f8.params[j]? = some t → args[j]? = some v → Value.okWide Try.prog W .any base t v := hval0
  have hW' := hW
  obtain ⟨p, q, hA0, hV, rfl, hfz, hnd⟩ := hW
  have hA : DataW.TrodAll enc Try.prog W 0 (fun _ => true) true Try.f8.params.toList args.toList ds p := hA0
  rw [Try.params8] at hA hval hsz
  obtain ⟨v0, vs0, d0, ds0, p0, q0, hargs, rfl, rfl, h0, r0⟩ := trodAll_cons hA
  obtain ⟨v1, vs1, d1, ds1, p1, q1, rfl, rfl, rfl, h1, r1⟩ := trodAll_cons r0
  obtain ⟨rfl, rfl, rfl⟩ := trodAll_nil r1
  obtain rfl : args = #[v0, v1] := by cases args; simp_all
  obtain ⟨rfl, rfl⟩ := trodVars_none hV
  have k0 := h0
  have lt0 : ∀ x ∈ p0, x.block < W.heap.size := by obtain ⟨m, hm⟩ := k0; exact DataW.trod_lt m _ _ _ hm
  obtain ⟨a0, e0, g0⟩ := open_row ok0 Try.underlying22 (hval 0 22 v0 rfl rfl) h0 (weigh hsz (j := 0) (t := 22) rfl rfl)
  have k1 := h1
  have lt1 : ∀ x ∈ p1, x.block < W.heap.size := by obtain ⟨m, hm⟩ := k1; exact DataW.trod_lt m _ _ _ hm
  obtain ⟨a1, e1, g1⟩ := open_row ok1 Try.underlying38 (hval 1 38 v1 rfl rfl) h1 (weigh hsz (j := 1) (t := 38) rfl rfl)
  clear hA0 hval0 hsz0 hsz
  have hp := buddyFails a0 a1 g0 g1
  have hh : Has False Try.prog 8 (ad8.f (a0, a1)) dq8 true := has_of (cok8 _) Try.func8 ((ev8 (F11 _) (F12 _) (F21 _) (F19 _) (F22 _) (F18 _) (F23 _) (F24 _) (F15 _) _ a0 a1).trans hp)
  refine (law_calls rfl hh (vs := [v0, v1]) ⟨_, _, rfl, e0, ⟨_, _, rfl, e1, rfl⟩⟩).mono ?_
  rintro e W' ⟨rfl, bel⟩
  exact ⟨_, rfl, _, _, _, [], _, [], hW', trodAll_mk1 (shut_bool Try.underlying4 _), (trodAll_cons_mk (Below.trod laidOut (by kernel_rfl) (of_decide_eq_true (by kernel_rfl)) k0 bel lt0) (trodAll_cons_mk (Below.trod laidOut (by kernel_rfl) (of_decide_eq_true (by kernel_rfl)) k1 bel lt1) trodAll_mk0)), rfl, bel.frame _, fun h => by cases h⟩
theorem over : Rows.buddyFailsRow.holds Try.pinned (OpenSpec.ofChange Rows.buddyFailsSpec) :=
  OpenClaim.holds_of_wide 8 Try.f8 rfl rfl rfl rfl rfl rfl rfl ⟨rfl, rfl, rfl, rfl, rfl⟩ rfl rfl rfl rfl rfl (by kernel_rfl) Try.func8 (by kernel_rfl)
    (of_decide_eq_true (by kernel_rfl)) (by unfold Func.isWrapper; first | (rw [if_pos (by decide +kernel)]; kernel_rfl) | (rw [if_neg (by decide +kernel)]; exact ⟨rfl, rfl⟩))
    (fun os started H enc _ => lifted os started H enc)
theorem proved : Rows.BuddyFailsSaid := over
#print axioms proved
end Go.Proofs.Ytiicginipjbloaa.buddyFails
namespace Go.Proofs.Ytiicginipjbloaa
/-- The row, under a short name, for the claim. -/
theorem buddyFails_holds : Rows.BuddyFailsSaid := buddyFails.proved
end Go.Proofs.Ytiicginipjbloaa
