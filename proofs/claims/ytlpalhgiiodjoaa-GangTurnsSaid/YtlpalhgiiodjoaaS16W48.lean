/- Gang: the length of a number, as a plain function. -/
import Derived.Test.YtlpalhgiiodjoaaS16T
import Derived.Test.YtlpalhgiiodjoaaEngS
import Derived.Shelf.SlSortCmp.NoneTotal
set_option linter.all false
namespace Go.Proofs.YtlpalhgiiodjoaaE
open Go Go.Proofs Go.Shelf Go.Sort
set_option maxRecDepth 100000
set_option linter.unusedVariables false
variable {D : Prop}
def sort48_ren : Go.Shelf.Ren := ⟨fun | 6 => 49 | 15 => 48 | 14 => 69 | 28 => 67 | 29 => 68 | 20 => 77 | 21 => 78 | 22 => 79 | 23 => 80 | 24 => 81 | 25 => 82 | 26 => 83 | 27 => 84 | 46 => 86 | 47 => 72 | 48 => 73 | 49 => 87 | 50 => 88 | 57 => 89 | n => n, fun | 22 => 25 | 24 => 34 | 25 => 81 | 3 => 3 | 39 => 40 | 0 => 0 | 53 => 30 | 55 => 63 | 4 => 4 | 46 => 88 | 45 => 87 | 50 => 93 | 5 => 5 | 9 => 9 | 66 => 98 | 70 => 102 | 76 => 110 | 77 => 111 | n => n, fun | n => n⟩
theorem sort48 : Go.Proofs.SlLaysF0.n6 Try.prog sort48_ren := {
  mixed := by kernel_rfl,
  f6 := ⟨Try.f49.name, by decide, Try.func49.trans (congrArg some (by kernel_rfl))⟩,
  f14 := ⟨Try.f69.name, by decide, Try.func69.trans (congrArg some (by kernel_rfl))⟩,
  f15 := Try.func48.trans (congrArg some (by kernel_rfl)),
  f20 := ⟨Try.f77.name, by decide, Try.func77.trans (congrArg some (by kernel_rfl))⟩,
  f21 := ⟨Try.f78.name, by decide, Try.func78.trans (congrArg some (by kernel_rfl))⟩,
  f22 := ⟨Try.f79.name, by decide, Try.func79.trans (congrArg some (by kernel_rfl))⟩,
  f23 := ⟨Try.f80.name, by decide, Try.func80.trans (congrArg some (by kernel_rfl))⟩,
  f24 := ⟨Try.f81.name, by decide, Try.func81.trans (congrArg some (by kernel_rfl))⟩,
  f25 := ⟨Try.f82.name, by decide, Try.func82.trans (congrArg some (by kernel_rfl))⟩,
  f26 := ⟨Try.f83.name, by decide, Try.func83.trans (congrArg some (by kernel_rfl))⟩,
  f27 := ⟨Try.f84.name, by decide, Try.func84.trans (congrArg some (by kernel_rfl))⟩,
  f28 := Try.func67.trans (congrArg some (by kernel_rfl)),
  f29 := Try.func68.trans (congrArg some (by kernel_rfl)),
  f46 := ⟨Try.f86.name, by decide, Try.func86.trans (congrArg some (by kernel_rfl))⟩,
  f47 := Try.func72.trans (congrArg some (by kernel_rfl)),
  f48 := Try.func73.trans (congrArg some (by kernel_rfl)),
  f49 := ⟨Try.f87.name, by decide, Try.func87.trans (congrArg some (by kernel_rfl))⟩,
  f50 := ⟨Try.f88.name, by decide, Try.func88.trans (congrArg some (by kernel_rfl))⟩,
  f57 := ⟨Try.f89.name, by decide, Try.func89.trans (congrArg some (by kernel_rfl))⟩,
  t0 := Try.underlying0,
  a0 := Try.isAgg0,
  z0 := Try.sizeOf0,
  v0 := Try.zeroValue0,
  t3 := Try.underlying3,
  a3 := Try.isAgg3,
  z3 := Try.sizeOf3,
  v3 := Try.zeroValue3,
  t4 := Try.underlying4,
  a4 := Try.isAgg4,
  z4 := Try.sizeOf4,
  v4 := Try.zeroValue4,
  t5 := Try.underlying5,
  a5 := Try.isAgg5,
  z5 := Try.sizeOf5,
  v5 := Try.zeroValue5,
  t9 := Try.underlying9,
  a9 := Try.isAgg9,
  z9 := Try.sizeOf9,
  v9 := Try.zeroValue9,
  t22 := Try.underlying25,
  a22 := Try.isAgg25,
  z22 := Try.sizeOf25,
  v22 := Try.zeroValue25,
  t25 := Try.underlying81,
  a25 := Try.isAgg81,
  z25 := Try.sizeOf81,
  v25 := Try.zeroValue81,
  t39 := Try.underlying40,
  a39 := Try.isAgg40,
  z39 := Try.sizeOf40,
  v39 := Try.zeroValue40,
  t45 := Try.underlying87,
  a45 := Try.isAgg87,
  z45 := Try.sizeOf87,
  v45 := Try.zeroValue87,
  t46 := Try.underlying88,
  a46 := Try.isAgg88,
  z46 := Try.sizeOf88,
  v46 := Try.zeroValue88,
  t50 := Try.underlying93,
  a50 := Try.isAgg93,
  z50 := Try.sizeOf93,
  v50 := Try.zeroValue93,
  t53 := Try.underlying30,
  a53 := Try.isAgg30,
  z53 := Try.sizeOf30,
  v53 := Try.zeroValue30,
  t55 := Try.underlying63,
  a55 := Try.isAgg63,
  z55 := Try.sizeOf63,
  v55 := Try.zeroValue63,
  t66 := Try.underlying98,
  a66 := Try.isAgg98,
  z66 := Try.sizeOf98,
  v66 := Try.zeroValue98,
  t70 := Try.underlying102,
  a70 := Try.isAgg102,
  z70 := Try.sizeOf102,
  v70 := Try.zeroValue102,
  t76 := Try.underlying110,
  a76 := Try.isAgg110,
  z76 := Try.sizeOf110,
  v76 := Try.zeroValue110,
  t77 := Try.underlying111,
  a77 := Try.isAgg111,
  z77 := Try.sizeOf111,
  v77 := Try.zeroValue111 }


def F48 (K : Nat) (x : Int) : Option Int := if 0 ≤ x ∧ x ≤ 18446744073709551615 then some (Lib.bitLen x.toNat) else none
theorem ok48 (K : Nat) : RowOK D Try.prog 48 (row ad48 dq48 fun p => F48 K p) := row_ok fun x r h => by
  unfold F48 at h
  split at h
  · rename_i hx
    cases h
    intro S w vals hS hV
    obtain ⟨v, vs, rfl, rfl, hvs⟩ := hV
    rw [VsOK] at hvs
    subst hvs
    refine (Any.bits_Len (SlLaysF0.n15.bits (P := Try.prog) (ρ := sort48_ren) { sort48 with }) x w hx.1 hx.2).mono ?_
    rintro e w' ⟨rfl, rfl⟩
    exact ⟨_, undef, S, rfl, ⟨⟨rfl, rfl, rfl, Nat.le_refl _, fun _ _ => rfl⟩, fun _ => Nat.le_refl _⟩, fun b h => h, fun b h => ⟨.inl h, hS b h⟩, fun id => rfl, fun B hB => by cases hB⟩
  · cases h
end Go.Proofs.YtlpalhgiiodjoaaE
