/- Backfill: the library's compaction of numbers, as a plain function. -/
import Derived.Test.YtipfamkhplkpmaaS15F5
import Derived.Test.YtipfamkhplkpmaaEngU
import Derived.Shelf.SlicesG.CompactI
set_option linter.all false
namespace Go.Proofs.YtipfamkhplkpmaaE
open Go Go.Proofs Go.Shelf Go.Sort
set_option maxRecDepth 100000
set_option linter.unusedVariables false
variable {D : Prop}
def lay46_ren : Go.Shelf.Ren := ⟨fun | 43 => 46 | n => n, fun | 22 => 22 | 23 => 3 | 3 => 3 | 4 => 4 | 0 => 0 | n => n, fun | n => n⟩
theorem lay46 : Go.Proofs.SlLaysN.n43 Try.prog lay46_ren := {
  mixed := by kernel_rfl,
  f43 := ⟨Try.f46.name, by decide, Try.func46.trans (congrArg some (by kernel_rfl))⟩,
  t0 := Try.underlying0,
  a0 := Try.isAgg0,
  z0 := Try.sizeOf0,
  v0 := Try.zeroValue0,
  t3 := Try.underlying3,
  a3 := Try.isAgg3,
  z3 := Try.sizeOf3,
  v3 := Try.zeroValue3,
  t4 := Try.underlying4,
  a4 := Try.isAgg4,
  z4 := Try.sizeOf4,
  v4 := Try.zeroValue4,
  t22 := Try.underlying22,
  a22 := Try.isAgg22,
  z22 := Try.sizeOf22,
  v22 := Try.zeroValue22,
  t23 := Try.underlying3,
  a23 := Try.isAgg3,
  z23 := Try.sizeOf3,
  v23 := Try.zeroValue3,
  i23 := by kernel_rfl }


def F46 (K : Nat) (x : Unit) (l : List Int) : Option (List Int) := some (Lib.compact l)
theorem compact_len (l : List Int) : (Lib.compact l).length ≤ l.length := by
  unfold Lib.compact Lib.compactUpTo
  rw [List.length_map]
  exact Nat.le_trans (List.length_filter_le ..) (by simp)
theorem ok46 (K : Nat) : RowW D Try.prog 46 (rowW (.int .i64) ad46 (F46 K) true) := rowW_ok fun x l r h => by
  cases h
  refine turn_has (t := .int .i64) rfl (compact_len l) (fun h => by cases h) ?_ ?_
  · intro w b c S vals hS hnS hH hb hlc hc hV
    have hV' : vals = [] := hV
    subst hV'
    refine (AnyG.slices_Compact_int lay46 b 0 (c + 1) l w (holds_one hH) (by unfold maxLen at hc; omega) hlc).mono ?_
    rintro e w' ⟨rfl, q, rfl⟩
    refine ⟨rfl, q, #[], List.replicate (l.length - (Lib.compact l).length) (0 : Int), ?_, ?_⟩
    · have := compact_len l
      simp; omega
    · refine Eq.trans ?_ (world_one .i64 w b q _ #[])
      have hg : ∀ v : World, v = Sort.grow v #[] := fun v => by cases v; simp [Sort.grow]
      exact hg _
  · intro hl w A S vals hV
    have hV' : vals = [] := hV
    subst hV'
    refine (AnyG.slices_Compact_int_empty lay46 A 0 w).mono ?_
    rintro e w' ⟨rfl, rfl⟩
    exact ⟨rfl, ⟨rfl, rfl, rfl, Nat.le_refl _, fun _ _ => rfl⟩, fun _ => Nat.le_refl _⟩
end Go.Proofs.YtipfamkhplkpmaaE
