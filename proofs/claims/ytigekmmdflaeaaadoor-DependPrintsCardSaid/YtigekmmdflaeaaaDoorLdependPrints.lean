/- Any dependency may be, or not, and has the text, and the jobs, that the chapter says; it stays, and what comes out is its owner's: for every input. -/
import Derived.Test.YtigekmmdflaeaaaDoorRows
import Derived.Test.YtigekmmdflaeaaaDoorP08Q
import Derived.WalkKit
import Derived.ProofKit
import Derived.OpenShut
import Derived.ShutString
import Derived.ChangeOld
import Derived.Below
import Derived.SizedLaws
import Derived.Test.YtigekmmdflaeaaaDoorEng16
import Derived.Test.YtigekmmdflaeaaaDoorTie
import Derived.Test.YtigekmmdflaeaaaDoorCards
import Derived.LaidMore
import Derived.Lay
import Derived.SevenTiedAt
import Derived.Stop.Joined
set_option linter.all false
namespace Go.Proofs.YtigekmmdflaeaaaDoor.dependPrints
open Go.ChangeShapes Go.WideShapes Go.ChangeAt Go.RowKit Go.Proofs.YtigekmmdflaeaaaDoorE
set_option linter.unusedVariables false
theorem own : ownKnob Tryd.prog.godebug = none := by kernel_rfl
theorem laidOut : laidOutB Tryd.prog = true := by kernel_rfl
theorem ok0 : okTy Tryd.prog 20 24 T24 = true := by kernel_rfl
theorem tabOf {W : World} (hL : laidMetH Tryd.prog Rows.dependPrintsRow.laid W) : cxT.hy W := by
  have h1 := hL.filter (fun x => x.1 == "internal/strconv.uint64pow10")
  have e : (Rows.dependPrintsRow.laid.filter fun x => x.1 == "internal/strconv.uint64pow10") = [("internal/strconv.uint64pow10", Lib.tabData .u64 Lib.pow10Tab)] := by kernel_rfl
  rw [e] at h1
  rw [MakeChecks.laidMetH_plain _ _ _ (by kernel_rfl)] at h1
  exact Lib.tabIs_of_head (g := 0) (t := 118) (e := 63) (n := 20) (by kernel_rfl) (by kernel_rfl) Tryd.underlying118 Tryd.underlying63 (by kernel_rfl) (by kernel_rfl) h1
set_option maxRecDepth 100000 in
theorem lifted (os : Os) (started : os.Started) (H : Type) (enc : TypeId × Value → H) :
    ReturnsInHanded {} Tryd.checked os 3 .any (fun w args => (Rows.dependPrintsSpec.pre enc Tryd.prog Tryd.f3 Rows.dependPrintsRow.domain false w args ∧ laidMetH Tryd.prog Rows.dependPrintsRow.laid w) ∧ sizedMet enc Tryd.prog Tryd.f3 (OpenSpec.ofChange Rows.dependPrintsSpec) false w args) (Rows.dependPrintsSpec.post enc Tryd.prog Tryd.f3 false true false false) := by
  refine returnsInHanded_of_change_and (C := Tryd.checked) (X := fun w _ => laidMetH Tryd.prog Rows.dependPrintsRow.laid w) (fun _ _ _ hh h => h.of_heap hh) own started (by kernel_rfl) Tryd.func3
    (ChangeSpec.witness_shaped (enc := enc) (C := Tryd.checked) (os := os) (X := fun w _ => laidMetH Tryd.prog Rows.dependPrintsRow.laid w) false (World.laidAll Tryd.prog os Rows.dependPrintsRow.laid) #[.agg ((Tryd.prog.info? 24).bind fun i => i.zero.map fun v => v.cells).get!] 8 (World.laidAll_os _ _ _)
      (World.shaped_of_ZipB (by kernel_rfl) (by kernel_rfl)) (by kernel_rfl) (by kernel_rfl) (by kernel_rfl)
      (by rw [MakeChecks.laidMetH_plain _ _ _ (by kernel_rfl)]; exact laidMet_laidAll _ (by kernel_rfl) (by kernel_rfl))) ?_
  intro W base args ds gs before hval0 hW hcnd hsz0 hL _
  have hsz : (DataW.weightsEach Tryd.prog (Tryd.f3.params.toList ++ Rows.dependPrintsSpec.plain.varTypes Tryd.prog) (ds ++ gs)).all (· ≤ reachBytes) = true := hsz0
  have hval : ∀ (j : Nat) t v, Tryd.f3.params[j]? = some t → args[j]? = some v → Value.okWide Tryd.prog W .any base t v := hval0
  have hW' := hW
  obtain ⟨p, q, hA0, hV, rfl, hfz, hnd⟩ := hW
  have hA : DataW.TrodAll enc Tryd.prog W 0 (fun _ => true) true Tryd.f3.params.toList args.toList ds p := hA0
  rw [Tryd.params3] at hA hval hsz
  obtain ⟨v0, vs0, d0, ds0, p0, q0, hargs, rfl, rfl, h0, r0⟩ := trodAll_cons hA
  obtain ⟨rfl, rfl, rfl⟩ := trodAll_nil r0
  obtain rfl : args = #[v0] := by cases args; simp_all
  obtain ⟨rfl, rfl⟩ := trodVars_none hV
  have k0 := h0
  have lt0 : ∀ x ∈ p0, x.block < W.heap.size := by obtain ⟨m, hm⟩ := k0; exact DataW.trod_lt m _ _ _ hm
  obtain ⟨a0, e0, g0⟩ := open_agg ok0 Tryd.underlying24 (hval 0 24 v0 rfl rfl) h0 (weigh hsz (j := 0) (t := 24) rfl rfl)
  clear hA0 hval0 hsz0 hsz
  have hp := dependPrints a0 g0
  have hh : Has cxT Tryd.prog 3 (ad3.f a0) dq3 true := has_of (cok3 _) Tryd.func3 ((ev3 (F10 _) (F11 _) (F12 _) (F13 _) (F14 _) (F15 _) (F16 _) (F17 _) (F18 _) (F19 _) (F20 _) _ a0).trans hp)
  refine (law_calls rfl hh (vs := [v0]) ⟨_, _, rfl, e0, rfl⟩ (tabOf hL)).mono ?_
  rintro e W' ⟨rfl, bel⟩
  exact ⟨_, rfl, _, _, _, [], _, [], hW', trodAll_mk1 (shut_bool Tryd.underlying4 _), (trodAll_cons_mk (Below.trod laidOut (by kernel_rfl) (of_decide_eq_true (by kernel_rfl)) k0 bel lt0) trodAll_mk0), rfl, bel.frame _, fun h => by cases h⟩
theorem over : Rows.dependPrintsRow.holds Tryd.pinned (OpenSpec.ofChange Rows.dependPrintsSpec) :=
  OpenClaim.holds_of_wide 3 Tryd.f3 rfl rfl rfl rfl rfl rfl rfl ⟨rfl, rfl, rfl, rfl, rfl⟩ rfl rfl rfl rfl rfl (by kernel_rfl) Tryd.func3 (by kernel_rfl)
    (of_decide_eq_true (by kernel_rfl)) (by unfold Func.isWrapper; first | (rw [if_pos (by decide +kernel)]; kernel_rfl) | (rw [if_neg (by decide +kernel)]; exact ⟨rfl, rfl⟩))
    (fun os started H enc _ => lifted os started H enc)
theorem proved : Rows.DependPrintsSaid := over
theorem card : Rows.DependPrintsCardSaid :=
  Claim7.holds_tied_plain_at .later [] [.data, .data, .data, .data, .pinned] true (true, "533e3c574ad4018d359ad1454f19344faf9c5393b5a2110a996db1f043857ef9") false proved (fun _ h => by cases h) (by kernel_rfl) (fun _ h => by cases h) dependPrints_row_tie rfl ⟨rfl, rfl⟩ (by kernel_rfl) rfl
    (fun f fn hf hfn => by
      obtain rfl : f = 3 := Option.some.inj ((show Tryd.prog.funcNamed "ganger/gangerlaw08.DependPrints" = some 3 by kernel_rfl).symm.trans hf) |>.symm
      obtain rfl : fn = Tryd.f3 := (Option.some.inj (Tryd.func3.symm.trans hfn)).symm
      exact ⟨by kernel_rfl, fun j t ht => by
        rw [Tryd.params3] at ht
        have hm : t ∈ [24] := by simpa using Array.mem_of_getElem? ht
        have hall : ([24].all fun u => !Tryd.prog.wantsStandIn u) = true := by kernel_rfl
        exact (show Tryd.prog.wantsStandIn t = false by simpa using List.all_eq_true.1 hall t hm)⟩)
    (by kernel_rfl)
#print axioms card
end Go.Proofs.YtigekmmdflaeaaaDoor.dependPrints
namespace Go.Proofs.YtigekmmdflaeaaaDoor
/-- The card, under a short name, for the claim. -/
theorem dependPrints_holds : Rows.DependPrintsCardSaid := dependPrints.card
end Go.Proofs.YtigekmmdflaeaaaDoor
