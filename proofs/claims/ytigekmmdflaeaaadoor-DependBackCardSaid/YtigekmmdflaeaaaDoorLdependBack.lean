/- Without the document's answer: what was printed is read again as it was, and what is read is printed as it was: for every input. -/
import Derived.Test.YtigekmmdflaeaaaDoorRows
import Derived.Test.YtigekmmdflaeaaaDoorP08Q
import Derived.WalkKit
import Derived.ProofKit
import Derived.OpenShut
import Derived.ShutString
import Derived.ChangeOld
import Derived.Below
import Derived.SizedLaws
import Derived.Test.YtigekmmdflaeaaaDoorEng16
import Derived.Test.YtigekmmdflaeaaaDoorTie
import Derived.Test.YtigekmmdflaeaaaDoorCards
import Derived.LaidMore
import Derived.Lay
import Derived.SevenTiedAt
import Derived.Stop.Joined
set_option linter.all false
namespace Go.Proofs.YtigekmmdflaeaaaDoor.dependBack
open Go.ChangeShapes Go.WideShapes Go.ChangeAt Go.RowKit Go.Proofs.YtigekmmdflaeaaaDoorE
set_option linter.unusedVariables false
theorem own : ownKnob Tryd.prog.godebug = none := by kernel_rfl
theorem laidOut : laidOutB Tryd.prog = true := by kernel_rfl
theorem ok0 : okTy Tryd.prog 20 24 T24 = true := by kernel_rfl
theorem ok1 : okTy Tryd.prog 20 9 .str = true := by kernel_rfl
theorem tabOf {W : World} (hL : laidMetH Tryd.prog Rows.dependBackRow.laid W) : cxT.hy W := by
  have h1 := hL.filter (fun x => x.1 == "internal/strconv.uint64pow10")
  have e : (Rows.dependBackRow.laid.filter fun x => x.1 == "internal/strconv.uint64pow10") = [("internal/strconv.uint64pow10", Lib.tabData .u64 Lib.pow10Tab)] := by kernel_rfl
  rw [e] at h1
  rw [MakeChecks.laidMetH_plain _ _ _ (by kernel_rfl)] at h1
  exact Lib.tabIs_of_head (g := 0) (t := 118) (e := 63) (n := 20) (by kernel_rfl) (by kernel_rfl) Tryd.underlying118 Tryd.underlying63 (by kernel_rfl) (by kernel_rfl) h1
set_option maxRecDepth 100000 in
theorem lifted (os : Os) (started : os.Started) (H : Type) (enc : TypeId × Value → H) :
    ReturnsInHanded {} Tryd.checked os 6 .any (fun w args => (Rows.dependBackSpec.pre enc Tryd.prog Tryd.f6 Rows.dependBackRow.domain false w args ∧ laidMetH Tryd.prog Rows.dependBackRow.laid w) ∧ sizedMet enc Tryd.prog Tryd.f6 (OpenSpec.ofChange Rows.dependBackSpec) false w args) (Rows.dependBackSpec.post enc Tryd.prog Tryd.f6 false true false false) := by
  refine returnsInHanded_of_change_and (C := Tryd.checked) (X := fun w _ => laidMetH Tryd.prog Rows.dependBackRow.laid w) (fun _ _ _ hh h => h.of_heap hh) own started (by kernel_rfl) Tryd.func6
    (ChangeSpec.witness_shaped (enc := enc) (C := Tryd.checked) (os := os) (X := fun w _ => laidMetH Tryd.prog Rows.dependBackRow.laid w) false (World.laidAll Tryd.prog os Rows.dependBackRow.laid) #[.agg ((Tryd.prog.info? 24).bind fun i => i.zero.map fun v => v.cells).get!, .string .empty] 8 (World.laidAll_os _ _ _)
      (World.shaped_of_ZipB (by kernel_rfl) (by kernel_rfl)) (by kernel_rfl) (by kernel_rfl) (by kernel_rfl)
      (by rw [MakeChecks.laidMetH_plain _ _ _ (by kernel_rfl)]; exact laidMet_laidAll _ (by kernel_rfl) (by kernel_rfl))) ?_
  intro W base args ds gs before hval0 hW hcnd hsz0 hL _
  have hsz : (DataW.weightsEach Tryd.prog (Tryd.f6.params.toList ++ Rows.dependBackSpec.plain.varTypes Tryd.prog) (ds ++ gs)).all (· ≤ reachBytes) = true := hsz0
  have hval : ∀ (j : Nat) t v, Tryd.f6.params[j]? = some t → args[j]? = some v → Value.okWide Tryd.prog W .any base t v := hval0
  have hW' := hW
  obtain ⟨p, q, hA0, hV, rfl, hfz, hnd⟩ := hW
  have hA : DataW.TrodAll enc Tryd.prog W 0 (fun _ => true) true Tryd.f6.params.toList args.toList ds p := hA0
  rw [Tryd.params6] at hA hval hsz
  obtain ⟨v0, vs0, d0, ds0, p0, q0, hargs, rfl, rfl, h0, r0⟩ := trodAll_cons hA
  obtain ⟨v1, vs1, d1, ds1, p1, q1, rfl, rfl, rfl, h1, r1⟩ := trodAll_cons r0
  obtain ⟨rfl, rfl, rfl⟩ := trodAll_nil r1
  obtain rfl : args = #[v0, v1] := by cases args; simp_all
  obtain ⟨rfl, rfl⟩ := trodVars_none hV
  have k0 := h0
  have lt0 : ∀ x ∈ p0, x.block < W.heap.size := by obtain ⟨m, hm⟩ := k0; exact DataW.trod_lt m _ _ _ hm
  obtain ⟨a0, e0, g0⟩ := open_agg ok0 Tryd.underlying24 (hval 0 24 v0 rfl rfl) h0 (weigh hsz (j := 0) (t := 24) rfl rfl)
  have k1 := h1
  have lt1 : ∀ x ∈ p1, x.block < W.heap.size := by obtain ⟨m, hm⟩ := k1; exact DataW.trod_lt m _ _ _ hm
  obtain ⟨a1, e1, g1⟩ := open_s ok1 Tryd.underlying9 (hval 1 9 v1 rfl rfl) h1 (weigh hsz (j := 1) (t := 9) rfl rfl)
  clear hA0 hval0 hsz0 hsz
  have hp := dependBack a0 a1 g0 g1
  have hh : Has cxT Tryd.prog 6 (ad6.f (a0, a1)) dq6 true := has_of (cok6 _) Tryd.func6 ((ev6 (F10 _) (F11 _) (F14 _) (F13 _) (F21 _) (F20 _) _ a0 a1).trans hp)
  refine (law_calls rfl hh (vs := [v0, v1]) ⟨_, _, rfl, e0, ⟨_, _, rfl, e1, rfl⟩⟩ (tabOf hL)).mono ?_
  rintro e W' ⟨rfl, bel⟩
  exact ⟨_, rfl, _, _, _, [], _, [], hW', trodAll_mk1 (shut_bool Tryd.underlying4 _), (trodAll_cons_mk (Below.trod laidOut (by kernel_rfl) (of_decide_eq_true (by kernel_rfl)) k0 bel lt0) (trodAll_cons_mk (Below.trod laidOut (by kernel_rfl) (of_decide_eq_true (by kernel_rfl)) k1 bel lt1) trodAll_mk0)), rfl, bel.frame _, fun h => by cases h⟩
theorem over : Rows.dependBackRow.holds Tryd.pinned (OpenSpec.ofChange Rows.dependBackSpec) :=
  OpenClaim.holds_of_wide 6 Tryd.f6 rfl rfl rfl rfl rfl rfl rfl ⟨rfl, rfl, rfl, rfl, rfl⟩ rfl rfl rfl rfl rfl (by kernel_rfl) Tryd.func6 (by kernel_rfl)
    (of_decide_eq_true (by kernel_rfl)) (by unfold Func.isWrapper; first | (rw [if_pos (by decide +kernel)]; kernel_rfl) | (rw [if_neg (by decide +kernel)]; exact ⟨rfl, rfl⟩))
    (fun os started H enc _ => lifted os started H enc)
theorem proved : Rows.DependBackSaid := over
theorem card : Rows.DependBackCardSaid :=
  Claim7.holds_tied_plain_at .later [] [.data, .data, .data, .data, .pinned] true (true, "533e3c574ad4018d359ad1454f19344faf9c5393b5a2110a996db1f043857ef9") false proved (fun _ h => by cases h) (by kernel_rfl) (fun _ h => by cases h) dependBack_row_tie rfl ⟨rfl, rfl⟩ (by kernel_rfl) rfl
    (fun f fn hf hfn => by
      obtain rfl : f = 6 := Option.some.inj ((show Tryd.prog.funcNamed "ganger/gangerlaw08.DependBack" = some 6 by kernel_rfl).symm.trans hf) |>.symm
      obtain rfl : fn = Tryd.f6 := (Option.some.inj (Tryd.func6.symm.trans hfn)).symm
      exact ⟨by kernel_rfl, fun j t ht => by
        rw [Tryd.params6] at ht
        have hm : t ∈ [24, 9] := by simpa using Array.mem_of_getElem? ht
        have hall : ([24, 9].all fun u => !Tryd.prog.wantsStandIn u) = true := by kernel_rfl
        exact (show Tryd.prog.wantsStandIn t = false by simpa using List.all_eq_true.1 hall t hm)⟩)
    (by kernel_rfl)
#print axioms card
end Go.Proofs.YtigekmmdflaeaaaDoor.dependBack
namespace Go.Proofs.YtigekmmdflaeaaaDoor
/-- The card, under a short name, for the claim. -/
theorem dependBack_holds : Rows.DependBackCardSaid := dependBack.card
end Go.Proofs.YtigekmmdflaeaaaDoor
