/- Without the document's answer: while jobs go on, what a dependency says ready or never it says ever after; and when all have ended, and it is alone, it does not wait. -/
import Derived.Test.YtigekmmdflaeaaaDoorRows
import Derived.Test.YtigekmmdflaeaaaDoorP08Z
import Derived.WalkKit
import Derived.ProofKit
import Derived.OpenShut
import Derived.ShutString
import Derived.ChangeOld
import Derived.Below
import Derived.SizedLaws
import Derived.Test.YtigekmmdflaeaaaDoorEng16
import Derived.Test.YtigekmmdflaeaaaDoorTie
import Derived.Test.YtigekmmdflaeaaaDoorCards
import Derived.LaidMore
import Derived.Lay
import Derived.SevenTiedAt
import Derived.Stop.Joined
set_option linter.all false
namespace Go.Proofs.YtigekmmdflaeaaaDoor.dependStays
open Go.ChangeShapes Go.WideShapes Go.ChangeAt Go.RowKit Go.Proofs.YtigekmmdflaeaaaDoorE
set_option linter.unusedVariables false
theorem own : ownKnob Tryd.prog.godebug = none := by kernel_rfl
theorem laidOut : laidOutB Tryd.prog = true := by kernel_rfl
theorem ok0 : okTy Tryd.prog 20 24 T24 = true := by kernel_rfl
theorem ok1 : okTy Tryd.prog 20 48 (.sl T54) = true := by kernel_rfl
theorem ok2 : okTy Tryd.prog 20 52 (.sl (.int .u8)) = true := by kernel_rfl
theorem ok3 : okTy Tryd.prog 20 4 .bool = true := by kernel_rfl
set_option maxRecDepth 100000 in
theorem lifted (os : Os) (started : os.Started) (H : Type) (enc : TypeId × Value → H) :
    ReturnsInHanded {} Tryd.checked os 7 .any (fun w args => (Rows.dependStaysSpec.pre enc Tryd.prog Tryd.f7 Rows.dependStaysRow.domain false w args ∧ laidMetH Tryd.prog Rows.dependStaysRow.laid w) ∧ sizedMet enc Tryd.prog Tryd.f7 (OpenSpec.ofChange Rows.dependStaysSpec) false w args) (Rows.dependStaysSpec.post enc Tryd.prog Tryd.f7 false true false false) := by
  refine returnsInHanded_of_change_and (C := Tryd.checked) (X := fun w _ => laidMetH Tryd.prog Rows.dependStaysRow.laid w) (fun _ _ _ hh h => h.of_heap hh) own started (by kernel_rfl) Tryd.func7
    (ChangeSpec.witness_shaped (enc := enc) (C := Tryd.checked) (os := os) (X := fun w _ => laidMetH Tryd.prog Rows.dependStaysRow.laid w) false (World.laidAll Tryd.prog os Rows.dependStaysRow.laid) #[.agg ((Tryd.prog.info? 24).bind fun i => i.zero.map fun v => v.cells).get!, .slice none 0 0, .slice none 0 0, .bool false] 8 (World.laidAll_os _ _ _)
      (World.shaped_of_ZipB (by kernel_rfl) (by kernel_rfl)) (by kernel_rfl) (by kernel_rfl) (by kernel_rfl)
      (by rw [MakeChecks.laidMetH_plain _ _ _ (by kernel_rfl)]; exact laidMet_laidAll _ (by kernel_rfl) (by kernel_rfl))) ?_
  intro W base args ds gs before hval0 hW hcnd hsz0 hL _
  have hsz : (DataW.weightsEach Tryd.prog (Tryd.f7.params.toList ++ Rows.dependStaysSpec.plain.varTypes Tryd.prog) (ds ++ gs)).all (· ≤ reachBytes) = true := hsz0
  have hval : ∀ (j : Nat) t v, Tryd.f7.params[j]? = some t → args[j]? = some v → Value.okWide Tryd.prog W .any base t v := hval0
  have hW' := hW
  obtain ⟨p, q, hA0, hV, rfl, hfz, hnd⟩ := hW
  have hA : DataW.TrodAll enc Tryd.prog W 0 (fun _ => true) true Tryd.f7.params.toList args.toList ds p := hA0
  rw [Tryd.params7] at hA hval hsz
  obtain ⟨v0, vs0, d0, ds0, p0, q0, hargs, rfl, rfl, h0, r0⟩ := trodAll_cons hA
  obtain ⟨v1, vs1, d1, ds1, p1, q1, rfl, rfl, rfl, h1, r1⟩ := trodAll_cons r0
  obtain ⟨v2, vs2, d2, ds2, p2, q2, rfl, rfl, rfl, h2, r2⟩ := trodAll_cons r1
  obtain ⟨v3, vs3, d3, ds3, p3, q3, rfl, rfl, rfl, h3, r3⟩ := trodAll_cons r2
  obtain ⟨rfl, rfl, rfl⟩ := trodAll_nil r3
  obtain rfl : args = #[v0, v1, v2, v3] := by cases args; simp_all
  obtain ⟨rfl, rfl⟩ := trodVars_none hV
  have k0 := h0
  have lt0 : ∀ x ∈ p0, x.block < W.heap.size := by obtain ⟨m, hm⟩ := k0; exact DataW.trod_lt m _ _ _ hm
  obtain ⟨a0, e0, g0⟩ := open_agg ok0 Tryd.underlying24 (hval 0 24 v0 rfl rfl) h0 (weigh hsz (j := 0) (t := 24) rfl rfl)
  have k1 := h1
  have lt1 : ∀ x ∈ p1, x.block < W.heap.size := by obtain ⟨m, hm⟩ := k1; exact DataW.trod_lt m _ _ _ hm
  obtain ⟨a1, e1, g1⟩ := Go.Proofs.YtigekmmdflaeaaaDoorE.open_row ok1 Tryd.underlying48 (hval 1 48 v1 rfl rfl) h1 (weigh hsz (j := 1) (t := 48) rfl rfl)
  have k2 := h2
  have lt2 : ∀ x ∈ p2, x.block < W.heap.size := by obtain ⟨m, hm⟩ := k2; exact DataW.trod_lt m _ _ _ hm
  obtain ⟨a2, e2, g2⟩ := Go.Proofs.YtigekmmdflaeaaaDoorE.open_row ok2 Tryd.underlying52 (hval 2 52 v2 rfl rfl) h2 (weigh hsz (j := 2) (t := 52) rfl rfl)
  have k3 := h3
  have lt3 : ∀ x ∈ p3, x.block < W.heap.size := by obtain ⟨m, hm⟩ := k3; exact DataW.trod_lt m _ _ _ hm
  obtain ⟨a3, e3, g3⟩ := open_b ok3 Tryd.underlying4 (hval 3 4 v3 rfl rfl) h3 (weigh hsz (j := 3) (t := 4) rfl rfl)
  clear hA0 hval0 hsz0 hsz
  have hp := dependStays a0 a1 a2 a3 g0 g1 g2 g3
  have hh : Has False Tryd.prog 7 (ad7.f (a0, a1, a2, a3)) dq7 true := has_of (cok7 _) Tryd.func7 ((ev7 (F10 _) (F13 _) (F11 _) (F23 _) _ a0 a1 a2 a3).trans hp)
  refine (law_calls rfl hh (vs := [v0, v1, v2, v3]) ⟨_, _, rfl, e0, ⟨_, _, rfl, e1, ⟨_, _, rfl, e2, ⟨_, _, rfl, e3, rfl⟩⟩⟩⟩).mono ?_
  rintro e W' ⟨rfl, bel⟩
  exact ⟨_, rfl, _, _, _, [], _, [], hW', trodAll_mk1 (shut_bool Tryd.underlying4 _), (trodAll_cons_mk (Below.trod laidOut (by kernel_rfl) (of_decide_eq_true (by kernel_rfl)) k0 bel lt0) (trodAll_cons_mk (Below.trod laidOut (by kernel_rfl) (of_decide_eq_true (by kernel_rfl)) k1 bel lt1) (trodAll_cons_mk (Below.trod laidOut (by kernel_rfl) (of_decide_eq_true (by kernel_rfl)) k2 bel lt2) (trodAll_cons_mk (Below.trod laidOut (by kernel_rfl) (of_decide_eq_true (by kernel_rfl)) k3 bel lt3) trodAll_mk0)))), rfl, bel.frame _, fun h => by cases h⟩
theorem over : Rows.dependStaysRow.holds Tryd.pinned (OpenSpec.ofChange Rows.dependStaysSpec) :=
  OpenClaim.holds_of_wide 7 Tryd.f7 rfl rfl rfl rfl rfl rfl rfl ⟨rfl, rfl, rfl, rfl, rfl⟩ rfl rfl rfl rfl rfl (by kernel_rfl) Tryd.func7 (by kernel_rfl)
    (of_decide_eq_true (by kernel_rfl)) (by unfold Func.isWrapper; first | (rw [if_pos (by decide +kernel)]; kernel_rfl) | (rw [if_neg (by decide +kernel)]; exact ⟨rfl, rfl⟩))
    (fun os started H enc _ => lifted os started H enc)
theorem proved : Rows.DependStaysSaid := over
theorem card : Rows.DependStaysCardSaid :=
  Claim7.holds_tied_plain_at .later [] [.data, .data, .data, .data, .pinned] true (true, "533e3c574ad4018d359ad1454f19344faf9c5393b5a2110a996db1f043857ef9") false proved (fun _ h => by cases h) (by kernel_rfl) (fun _ h => by cases h) dependStays_row_tie rfl ⟨rfl, rfl⟩ (by kernel_rfl) rfl
    (fun f fn hf hfn => by
      obtain rfl : f = 7 := Option.some.inj ((show Tryd.prog.funcNamed "ganger/gangerlaw08.DependStays" = some 7 by kernel_rfl).symm.trans hf) |>.symm
      obtain rfl : fn = Tryd.f7 := (Option.some.inj (Tryd.func7.symm.trans hfn)).symm
      exact ⟨by kernel_rfl, fun j t ht => by
        rw [Tryd.params7] at ht
        have hm : t ∈ [24, 48, 52, 4] := by simpa using Array.mem_of_getElem? ht
        have hall : ([24, 48, 52, 4].all fun u => !Tryd.prog.wantsStandIn u) = true := by kernel_rfl
        exact (show Tryd.prog.wantsStandIn t = false by simpa using List.all_eq_true.1 hall t hm)⟩)
    (by kernel_rfl)
#print axioms card
end Go.Proofs.YtigekmmdflaeaaaDoor.dependStays
namespace Go.Proofs.YtigekmmdflaeaaaDoor
/-- The card, under a short name, for the claim. -/
theorem dependStays_holds : Rows.DependStaysCardSaid := dependStays.card
end Go.Proofs.YtigekmmdflaeaaaDoor
