/- Rank: the library's sort of keys, as a plain function. -/
import Derived.Test.YtcnfilanbmkpaaaP03A
import Derived.Test.YtcnfilanbmkpaaaEngS
import Derived.Shelf.SlSortCmp.NoneTotal
set_option linter.all false
namespace Go.Proofs.YtcnfilanbmkpaaaE
open Go Go.Proofs Go.Shelf Go.Sort
set_option maxRecDepth 100000
set_option linter.unusedVariables false
variable {D : Prop}
def sort36_ren : Go.Shelf.Ren := ⟨fun | 6 => 36 | 15 => 52 | 14 => 51 | 28 => 67 | 29 => 68 | 20 => 59 | 21 => 60 | 22 => 61 | 23 => 62 | 24 => 63 | 25 => 64 | 26 => 65 | 27 => 66 | 46 => 70 | 47 => 71 | 48 => 72 | 49 => 73 | 50 => 74 | 57 => 76 | n => n, fun | 22 => 22 | 24 => 35 | 25 => 57 | 3 => 3 | 39 => 54 | 0 => 0 | 53 => 33 | 55 => 60 | 4 => 4 | 46 => 85 | 45 => 84 | 50 => 65 | 5 => 5 | 9 => 9 | 66 => 92 | 70 => 96 | 76 => 99 | 77 => 100 | n => n, fun | n => n⟩
theorem sort36 : Go.Proofs.SlLaysF0.n6 Try.prog sort36_ren := {
  mixed := by kernel_rfl,
  f6 := ⟨Try.f36.name, by decide, Try.func36.trans (congrArg some (by kernel_rfl))⟩,
  f14 := ⟨Try.f51.name, by decide, Try.func51.trans (congrArg some (by kernel_rfl))⟩,
  f15 := Try.func52.trans (congrArg some (by kernel_rfl)),
  f20 := ⟨Try.f59.name, by decide, Try.func59.trans (congrArg some (by kernel_rfl))⟩,
  f21 := ⟨Try.f60.name, by decide, Try.func60.trans (congrArg some (by kernel_rfl))⟩,
  f22 := ⟨Try.f61.name, by decide, Try.func61.trans (congrArg some (by kernel_rfl))⟩,
  f23 := ⟨Try.f62.name, by decide, Try.func62.trans (congrArg some (by kernel_rfl))⟩,
  f24 := ⟨Try.f63.name, by decide, Try.func63.trans (congrArg some (by kernel_rfl))⟩,
  f25 := ⟨Try.f64.name, by decide, Try.func64.trans (congrArg some (by kernel_rfl))⟩,
  f26 := ⟨Try.f65.name, by decide, Try.func65.trans (congrArg some (by kernel_rfl))⟩,
  f27 := ⟨Try.f66.name, by decide, Try.func66.trans (congrArg some (by kernel_rfl))⟩,
  f28 := Try.func67.trans (congrArg some (by kernel_rfl)),
  f29 := Try.func68.trans (congrArg some (by kernel_rfl)),
  f46 := ⟨Try.f70.name, by decide, Try.func70.trans (congrArg some (by kernel_rfl))⟩,
  f47 := Try.func71.trans (congrArg some (by kernel_rfl)),
  f48 := Try.func72.trans (congrArg some (by kernel_rfl)),
  f49 := ⟨Try.f73.name, by decide, Try.func73.trans (congrArg some (by kernel_rfl))⟩,
  f50 := ⟨Try.f74.name, by decide, Try.func74.trans (congrArg some (by kernel_rfl))⟩,
  f57 := ⟨Try.f76.name, by decide, Try.func76.trans (congrArg some (by kernel_rfl))⟩,
  t0 := Try.underlying0,
  a0 := Try.isAgg0,
  z0 := Try.sizeOf0,
  v0 := Try.zeroValue0,
  t3 := Try.underlying3,
  a3 := Try.isAgg3,
  z3 := Try.sizeOf3,
  v3 := Try.zeroValue3,
  t4 := Try.underlying4,
  a4 := Try.isAgg4,
  z4 := Try.sizeOf4,
  v4 := Try.zeroValue4,
  t5 := Try.underlying5,
  a5 := Try.isAgg5,
  z5 := Try.sizeOf5,
  v5 := Try.zeroValue5,
  t9 := Try.underlying9,
  a9 := Try.isAgg9,
  z9 := Try.sizeOf9,
  v9 := Try.zeroValue9,
  t22 := Try.underlying22,
  a22 := Try.isAgg22,
  z22 := Try.sizeOf22,
  v22 := Try.zeroValue22,
  t25 := Try.underlying57,
  a25 := Try.isAgg57,
  z25 := Try.sizeOf57,
  v25 := Try.zeroValue57,
  t39 := Try.underlying54,
  a39 := Try.isAgg54,
  z39 := Try.sizeOf54,
  v39 := Try.zeroValue54,
  t45 := Try.underlying84,
  a45 := Try.isAgg84,
  z45 := Try.sizeOf84,
  v45 := Try.zeroValue84,
  t46 := Try.underlying85,
  a46 := Try.isAgg85,
  z46 := Try.sizeOf85,
  v46 := Try.zeroValue85,
  t50 := Try.underlying65,
  a50 := Try.isAgg65,
  z50 := Try.sizeOf65,
  v50 := Try.zeroValue65,
  t53 := Try.underlying33,
  a53 := Try.isAgg33,
  z53 := Try.sizeOf33,
  v53 := Try.zeroValue33,
  t55 := Try.underlying60,
  a55 := Try.isAgg60,
  z55 := Try.sizeOf60,
  v55 := Try.zeroValue60,
  t66 := Try.underlying92,
  a66 := Try.isAgg92,
  z66 := Try.sizeOf92,
  v66 := Try.zeroValue92,
  t70 := Try.underlying96,
  a70 := Try.isAgg96,
  z70 := Try.sizeOf96,
  v70 := Try.zeroValue96,
  t76 := Try.underlying99,
  a76 := Try.isAgg99,
  z76 := Try.sizeOf99,
  v76 := Try.zeroValue99,
  t77 := Try.underlying100,
  a77 := Try.isAgg100,
  z77 := Try.sizeOf100,
  v77 := Try.zeroValue100 }


theorem ltK (x y : Key) : ltOf cmpK x y = less x y := cmpK_less x y
theorem swoK : SWO (ltOf cmpK) where
  irrefl x := by rw [ltK]; exact less_irrefl x
  trans x y z h1 h2 := by rw [ltK] at *; exact less_trans h1 h2
  ntrans x y z h1 h2 := by
    rw [ltK] at *
    cases h : less x z with
    | false => rfl
    | true =>
      exfalso
      rw [less_iff] at h
      have e1 : ¬ _ := fun h => Bool.false_ne_true (h1.symm.trans ((less_iff x y).2 h))
      have e2 : ¬ _ := fun h => Bool.false_ne_true (h2.symm.trans ((less_iff y z).2 h))
      simp only [El] at *
      omega
noncomputable def srt (l : List Key) : List Key := l.mergeSort fun x y => !(ltOf cmpK) y x
noncomputable def F36 (K : Nat) (x : Unit) (l : List Key) : Option (List Key) := if l.length < 4611686018427387904 then some (srt l) else none
theorem has34 (x y : Key) : Has True Try.prog 34 [.agg (cellsOf T35 x), .agg (cellsOf T35 y)] (dec1 (sdInt .i64)) (cmpK x y) := has_of (cok34 4) Try.func34 ((ev34 (F49 4) (F50 4) (F48 4) 4 x y).trans (F34_eq 4 (by omega) x y))
theorem ok36 (K : Nat) : RowW D Try.prog 36 (rowW T35 ad36 (F36 K) false) := rowW_ok fun x l r h => by
  unfold F36 at h
  split at h
  · rename_i hlt
    cases h
    refine sort_has (t := T35) rfl (by simp [srt]) ?_ ?_
    · intro w b c S vals hS hnS hH hb hlc hc hV
      obtain ⟨u, us, rfl, ⟨caps, rfl, hcaps⟩, hus⟩ := hV
      rw [VsOK] at hus
      subst hus
      have hcaps' : caps = [] := hcaps
      subst hcaps'
      have := AnyQ.slices_SortFunc_total sort36 3 Try.isAgg35 Try.sizeOf35 (encT T35) (fun x => encT_len x rfl) (fun x => encT_one x) cmpK swoK 34 #[] b 0 (c + 1) l.toArray w ent34 (cmp_lays rfl has34 b 0 l.length w) hH hb (by simpa using hlt) (fun x y h1 h2 => by rw [ltK] at h1 h2; exact less_total h1 h2)
      exact this
    · intro hl w A S vals hV
      obtain ⟨u, us, rfl, ⟨caps, rfl, hcaps⟩, hus⟩ := hV
      rw [VsOK] at hus
      subst hus
      refine (AnyF.slices_SortFunc_none sort36 A 0 _ w).mono ?_
      rintro e w' ⟨rfl, rfl⟩
      exact ⟨rfl, ⟨rfl, rfl, rfl, Nat.le_refl _, fun _ _ => rfl⟩, fun _ => Nat.le_refl _⟩
  · cases h
end Go.Proofs.YtcnfilanbmkpaaaE
