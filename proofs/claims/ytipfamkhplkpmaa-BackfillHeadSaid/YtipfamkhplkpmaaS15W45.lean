/- Backfill: the library's sort of numbers, as a plain function. -/
import Derived.Test.YtipfamkhplkpmaaS15W46
import Derived.Test.YtipfamkhplkpmaaEngU
import Derived.Shelf.SortG.Plain
import Derived.Shelf.SortG.SortNone
set_option linter.all false
namespace Go.Proofs.YtipfamkhplkpmaaE
open Go Go.Proofs Go.Shelf Go.Sort
set_option maxRecDepth 100000
set_option linter.unusedVariables false
variable {D : Prop}
def lay45_ren : Go.Shelf.Ren := ⟨fun | 53 => 45 | 64 => 53 | 63 => 52 | 78 => 63 | 79 => 64 | 70 => 55 | 71 => 56 | 72 => 57 | 73 => 58 | 74 => 59 | 75 => 60 | 59 => 50 | 76 => 61 | 77 => 62 | 88 => 65 | 89 => 66 | 90 => 67 | 91 => 68 | 92 => 69 | 68 => 54 | 96 => 70 | n => n, fun | 22 => 22 | 23 => 3 | 3 => 3 | 51 => 61 | 0 => 0 | 67 => 36 | 69 => 88 | 4 => 4 | 61 => 81 | 60 => 80 | 44 => 55 | 5 => 5 | 9 => 9 | 75 => 89 | 79 => 93 | 83 => 95 | 84 => 96 | n => n, fun | n => n⟩
theorem lay45 : Go.Proofs.SlLaysN.n53 Try.prog lay45_ren := {
  mixed := by kernel_rfl,
  f53 := ⟨Try.f45.name, by decide, Try.func45.trans (congrArg some (by kernel_rfl))⟩,
  f59 := ⟨Try.f50.name, by decide, Try.func50.trans (congrArg some (by kernel_rfl))⟩,
  f63 := ⟨Try.f52.name, by decide, Try.func52.trans (congrArg some (by kernel_rfl))⟩,
  f64 := Try.func53.trans (congrArg some (by kernel_rfl)),
  f68 := ⟨Try.f54.name, by decide, Try.func54.trans (congrArg some (by kernel_rfl))⟩,
  f70 := ⟨Try.f55.name, by decide, Try.func55.trans (congrArg some (by kernel_rfl))⟩,
  f71 := ⟨Try.f56.name, by decide, Try.func56.trans (congrArg some (by kernel_rfl))⟩,
  f72 := ⟨Try.f57.name, by decide, Try.func57.trans (congrArg some (by kernel_rfl))⟩,
  f73 := ⟨Try.f58.name, by decide, Try.func58.trans (congrArg some (by kernel_rfl))⟩,
  f74 := ⟨Try.f59.name, by decide, Try.func59.trans (congrArg some (by kernel_rfl))⟩,
  f75 := ⟨Try.f60.name, by decide, Try.func60.trans (congrArg some (by kernel_rfl))⟩,
  f76 := ⟨Try.f61.name, by decide, Try.func61.trans (congrArg some (by kernel_rfl))⟩,
  f77 := ⟨Try.f62.name, by decide, Try.func62.trans (congrArg some (by kernel_rfl))⟩,
  f78 := Try.func63.trans (congrArg some (by kernel_rfl)),
  f79 := Try.func64.trans (congrArg some (by kernel_rfl)),
  f88 := ⟨Try.f65.name, by decide, Try.func65.trans (congrArg some (by kernel_rfl))⟩,
  f89 := Try.func66.trans (congrArg some (by kernel_rfl)),
  f90 := Try.func67.trans (congrArg some (by kernel_rfl)),
  f91 := ⟨Try.f68.name, by decide, Try.func68.trans (congrArg some (by kernel_rfl))⟩,
  f92 := ⟨Try.f69.name, by decide, Try.func69.trans (congrArg some (by kernel_rfl))⟩,
  f96 := ⟨Try.f70.name, by decide, Try.func70.trans (congrArg some (by kernel_rfl))⟩,
  t0 := Try.underlying0,
  a0 := Try.isAgg0,
  z0 := Try.sizeOf0,
  v0 := Try.zeroValue0,
  t3 := Try.underlying3,
  a3 := Try.isAgg3,
  z3 := Try.sizeOf3,
  v3 := Try.zeroValue3,
  t4 := Try.underlying4,
  a4 := Try.isAgg4,
  z4 := Try.sizeOf4,
  v4 := Try.zeroValue4,
  t5 := Try.underlying5,
  a5 := Try.isAgg5,
  z5 := Try.sizeOf5,
  v5 := Try.zeroValue5,
  t9 := Try.underlying9,
  a9 := Try.isAgg9,
  z9 := Try.sizeOf9,
  v9 := Try.zeroValue9,
  t22 := Try.underlying22,
  a22 := Try.isAgg22,
  z22 := Try.sizeOf22,
  v22 := Try.zeroValue22,
  t23 := Try.underlying3,
  a23 := Try.isAgg3,
  z23 := Try.sizeOf3,
  v23 := Try.zeroValue3,
  t44 := Try.underlying55,
  a44 := Try.isAgg55,
  z44 := Try.sizeOf55,
  v44 := Try.zeroValue55,
  t51 := Try.underlying61,
  a51 := Try.isAgg61,
  z51 := Try.sizeOf61,
  v51 := Try.zeroValue61,
  t60 := Try.underlying80,
  a60 := Try.isAgg80,
  z60 := Try.sizeOf80,
  v60 := Try.zeroValue80,
  t61 := Try.underlying81,
  a61 := Try.isAgg81,
  z61 := Try.sizeOf81,
  v61 := Try.zeroValue81,
  t67 := Try.underlying36,
  a67 := Try.isAgg36,
  z67 := Try.sizeOf36,
  v67 := Try.zeroValue36,
  t69 := Try.underlying88,
  a69 := Try.isAgg88,
  z69 := Try.sizeOf88,
  v69 := Try.zeroValue88,
  t75 := Try.underlying89,
  a75 := Try.isAgg89,
  z75 := Try.sizeOf89,
  v75 := Try.zeroValue89,
  t79 := Try.underlying93,
  a79 := Try.isAgg93,
  z79 := Try.sizeOf93,
  v79 := Try.zeroValue93,
  t83 := Try.underlying95,
  a83 := Try.isAgg95,
  z83 := Try.sizeOf95,
  v83 := Try.zeroValue95,
  t84 := Try.underlying96,
  a84 := Try.isAgg96,
  z84 := Try.sizeOf96,
  v84 := Try.zeroValue96 }


noncomputable def srt (l : List Int) : List Int := l.mergeSort fun x y => decide (x ≤ y)
noncomputable def F45 (K : Nat) (x : Unit) (l : List Int) : Option (List Int) := if l.length < 4611686018427387904 then some (srt l) else none
theorem ok45 (K : Nat) : RowW D Try.prog 45 (rowW (.int .i64) ad45 (F45 K) false) := rowW_ok fun x l r h => by
  unfold F45 at h
  split at h
  · rename_i hlt
    cases h
    refine turn_has (t := .int .i64) rfl (by simp [srt]) (fun _ => by simp [srt]) ?_ ?_
    · intro w b c S vals hS hnS hH hb hlc hc hV
      have hV' : vals = [] := hV
      subst hV'
      refine (AnyG.slices_Sort_int lay45 b 0 (c + 1) l w (holds_one hH) hb hlt).mono ?_
      rintro e w' ⟨rfl, n, os, rfl⟩
      refine ⟨rfl, n, os, [], by simp [srt], ?_⟩
      rw [List.append_nil]
      exact world_one .i64 w b n (srt l) os
    · intro hl w A S vals hV
      have hV' : vals = [] := hV
      subst hV'
      refine (AnyG.slices_Sort_int_none lay45 A 0 w).mono ?_
      rintro e w' ⟨rfl, rfl⟩
      exact ⟨rfl, ⟨rfl, rfl, rfl, Nat.le_refl _, fun _ _ => rfl⟩, fun _ => Nat.le_refl _⟩
  · cases h
end Go.Proofs.YtipfamkhplkpmaaE
