/- Whatever is done to the yard, its answers are the document's, for every input. -/
import Derived.Test.YtiicginipjbloaaRows
import Derived.Test.YtiicginipjbloaaP04Z
import Derived.WalkKit
import Derived.ProofKit
import Derived.OpenShut
import Derived.ShutString
import Derived.ChangeOld
import Derived.Below
import Derived.SizedLaws
import Derived.Test.YtiicginipjbloaaEng16
set_option linter.all false
namespace Go.Proofs.Ytiicginipjbloaa.buddyPlays
open Go.ChangeShapes Go.WideShapes Go.ChangeAt Go.RowKit Go.Proofs.YtiicginipjbloaaE
set_option linter.unusedVariables false
theorem own : ownKnob Try.prog.godebug = none := by kernel_rfl
theorem laidOut : laidOutB Try.prog = true := by kernel_rfl
theorem ok1 : okTy Try.prog 20 22 (.sl T57) = true := by kernel_rfl
theorem ok3 : okTy Try.prog 20 38 (.sl (.int .i64)) = true := by kernel_rfl
set_option maxRecDepth 100000 in
theorem lifted (os : Os) (started : os.Started) (H : Type) (enc : TypeId × Value → H) :
    ReturnsInHanded {} Try.checked os 9 .any (Rows.buddyPlaysSpec.pre6 enc Try.prog Try.f9 Rows.buddyPlaysRow.domain false) (Rows.buddyPlaysSpec.post enc Try.prog Try.f9 false true false false) := by
  refine returnsInHanded_of_change_sized (C := Try.checked) own started (by kernel_rfl) Try.func9
    (ChangeSpec.witness6 (enc := enc) (C := Try.checked) false ⟨#[], #[.int .i64 0, .slice none 0 0, .int .i64 0, .slice none 0 0], []⟩ 8 (by kernel_rfl) (by kernel_rfl) (by kernel_rfl) (by kernel_rfl)) ?_
  intro W base args ds gs before hval0 hW hcnd hsz0 _
  have hsz : (DataW.weightsEach Try.prog (Try.f9.params.toList ++ Rows.buddyPlaysSpec.plain.varTypes Try.prog) (ds ++ gs)).all (· ≤ reachBytes) = true := hsz0
  have hval : ∀ (j : Nat) t v, Try.f9.params[j]? = some t → args[j]? = some v → Value.okWide Try.prog W .any base t v := hval0
  have hW' := hW
  obtain ⟨p, q, hA0, hV, rfl, hfz, hnd⟩ := hW
  have hA : DataW.TrodAll enc Try.prog W 0 (fun _ => true) true Try.f9.params.toList args.toList ds p := hA0
  rw [Try.params9] at hA hval hsz
  obtain ⟨v0, vs0, d0, ds0, p0, q0, hargs, rfl, rfl, h0, r0⟩ := trodAll_cons hA
  obtain ⟨v1, vs1, d1, ds1, p1, q1, rfl, rfl, rfl, h1, r1⟩ := trodAll_cons r0
  obtain ⟨v2, vs2, d2, ds2, p2, q2, rfl, rfl, rfl, h2, r2⟩ := trodAll_cons r1
  obtain ⟨v3, vs3, d3, ds3, p3, q3, rfl, rfl, rfl, h3, r3⟩ := trodAll_cons r2
  obtain ⟨rfl, rfl, rfl⟩ := trodAll_nil r3
  obtain rfl : args = #[v0, v1, v2, v3] := by cases args; simp_all
  obtain ⟨rfl, rfl⟩ := trodVars_none hV
  have k0 := h0
  have lt0 : ∀ x ∈ p0, x.block < W.heap.size := by obtain ⟨m, hm⟩ := k0; exact DataW.trod_lt m _ _ _ hm
  obtain ⟨a0, e0, g0⟩ := open_i Try.underlying3 (hval 0 3 v0 rfl rfl) h0
  have k1 := h1
  have lt1 : ∀ x ∈ p1, x.block < W.heap.size := by obtain ⟨m, hm⟩ := k1; exact DataW.trod_lt m _ _ _ hm
  obtain ⟨a1, e1, g1⟩ := open_row ok1 Try.underlying22 (hval 1 22 v1 rfl rfl) h1 (weigh hsz (j := 1) (t := 22) rfl rfl)
  have k2 := h2
  have lt2 : ∀ x ∈ p2, x.block < W.heap.size := by obtain ⟨m, hm⟩ := k2; exact DataW.trod_lt m _ _ _ hm
  obtain ⟨a2, e2, g2⟩ := open_i Try.underlying3 (hval 2 3 v2 rfl rfl) h2
  have k3 := h3
  have lt3 : ∀ x ∈ p3, x.block < W.heap.size := by obtain ⟨m, hm⟩ := k3; exact DataW.trod_lt m _ _ _ hm
  obtain ⟨a3, e3, g3⟩ := open_row ok3 Try.underlying38 (hval 3 38 v3 rfl rfl) h3 (weigh hsz (j := 3) (t := 38) rfl rfl)
  clear hA0 hval0 hsz0 hsz
  have hh : Has False Try.prog 9 (ad9.f (a0, a1, a2, a3)) dq9 true := by
    by_cases c : 0 ≤ a0 ∧ a0 ≤ 10
    · have hp := buddyPlays a0 a1 a2 a3 c.1 c.2
      exact has_of (cok9 _) Try.func9 ((ev9 (F15 _) (F4025 _) (F4026 _) (F27 _) (F28 _) (F29 _) (F12 _) (F19 _) (F21 _) (F30 _) (F18 _) (F31 _) (F32 _) (F24 _) (F16 _) (F33 _) (F13 _) (F34 _) (F20 _) (F35 _) _ a0 a1 a2 a3).trans hp)
    · have hp := buddyPlays' a0 a1 a2 a3 c
      exact has_of (cok1009 _) Try.func9 ((ev1009 (F15 _) (F5025 _) (F5026 _) (F27 _) (F28 _) (F29 _) (F12 _) (F19 _) (F21 _) (F30 _) (F18 _) (F31 _) (F32 _) (F24 _) (F16 _) (F33 _) (F13 _) (F34 _) (F20 _) (F35 _) _ a0 a1 a2 a3).trans hp)
  refine (law_calls rfl hh (vs := [v0, v1, v2, v3]) ⟨_, _, rfl, e0, ⟨_, _, rfl, e1, ⟨_, _, rfl, e2, ⟨_, _, rfl, e3, rfl⟩⟩⟩⟩).mono ?_
  rintro e W' ⟨rfl, bel⟩
  exact ⟨_, rfl, _, _, _, [], _, [], hW', trodAll_mk1 (shut_bool Try.underlying4 _), (trodAll_cons_mk (Below.trod laidOut (by kernel_rfl) (of_decide_eq_true (by kernel_rfl)) k0 bel lt0) (trodAll_cons_mk (Below.trod laidOut (by kernel_rfl) (of_decide_eq_true (by kernel_rfl)) k1 bel lt1) (trodAll_cons_mk (Below.trod laidOut (by kernel_rfl) (of_decide_eq_true (by kernel_rfl)) k2 bel lt2) (trodAll_cons_mk (Below.trod laidOut (by kernel_rfl) (of_decide_eq_true (by kernel_rfl)) k3 bel lt3) trodAll_mk0)))), rfl, bel.frame _, fun h => by cases h⟩
theorem over : Rows.buddyPlaysRow.holds Try.pinned (OpenSpec.ofChange Rows.buddyPlaysSpec) :=
  OpenClaim.holds_of_wide 9 Try.f9 rfl rfl rfl rfl rfl rfl rfl ⟨rfl, rfl, rfl, rfl, rfl⟩ rfl rfl rfl rfl rfl (by kernel_rfl) Try.func9 (by kernel_rfl)
    (of_decide_eq_true (by kernel_rfl)) (by unfold Func.isWrapper; first | (rw [if_pos (by decide +kernel)]; kernel_rfl) | (rw [if_neg (by decide +kernel)]; exact ⟨rfl, rfl⟩))
    (fun os started H enc _ => lifted os started H enc)
theorem proved : Rows.BuddyPlaysSaid := over
#print axioms proved
end Go.Proofs.Ytiicginipjbloaa.buddyPlays
namespace Go.Proofs.Ytiicginipjbloaa
/-- The row, under a short name, for the claim. -/
theorem buddyPlays_holds : Rows.BuddyPlaysSaid := buddyPlays.proved
end Go.Proofs.Ytiicginipjbloaa
