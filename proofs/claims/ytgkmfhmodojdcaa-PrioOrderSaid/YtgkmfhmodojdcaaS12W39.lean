/- Rank: the library's sort of keys, as a plain function. -/
import Derived.Test.YtgkmfhmodojdcaaP12RA
import Derived.Test.YtgkmfhmodojdcaaEngG
import Derived.Shelf.SlSortCmp.NoneTotal
set_option linter.all false
namespace Go.Proofs.YtgkmfhmodojdcaaE
open Go Go.Proofs Go.Shelf Go.Sort
set_option maxRecDepth 100000
set_option linter.unusedVariables false
variable {D : Prop}
def sort39_ren : Go.Shelf.Ren := ⟨fun | 6 => 39 | 15 => 47 | 14 => 46 | 28 => 60 | 29 => 51 | 20 => 52 | 21 => 53 | 22 => 54 | 23 => 55 | 24 => 56 | 25 => 57 | 26 => 58 | 27 => 59 | 46 => 63 | 47 => 64 | 48 => 65 | 49 => 66 | 50 => 67 | 57 => 68 | n => n, fun | 22 => 40 | 24 => 45 | 25 => 77 | 3 => 3 | 39 => 39 | 0 => 0 | 53 => 27 | 55 => 64 | 4 => 4 | 46 => 92 | 45 => 91 | 50 => 83 | 5 => 5 | 9 => 9 | 66 => 100 | 70 => 104 | 76 => 106 | 77 => 33 | n => n, fun | n => n⟩
theorem sort39 : Go.Proofs.SlLaysF0.n6 Try.prog sort39_ren := {
  mixed := by kernel_rfl,
  f6 := ⟨Try.f39.name, by decide, Try.func39.trans (congrArg some (by kernel_rfl))⟩,
  f14 := ⟨Try.f46.name, by decide, Try.func46.trans (congrArg some (by kernel_rfl))⟩,
  f15 := Try.func47.trans (congrArg some (by kernel_rfl)),
  f20 := ⟨Try.f52.name, by decide, Try.func52.trans (congrArg some (by kernel_rfl))⟩,
  f21 := ⟨Try.f53.name, by decide, Try.func53.trans (congrArg some (by kernel_rfl))⟩,
  f22 := ⟨Try.f54.name, by decide, Try.func54.trans (congrArg some (by kernel_rfl))⟩,
  f23 := ⟨Try.f55.name, by decide, Try.func55.trans (congrArg some (by kernel_rfl))⟩,
  f24 := ⟨Try.f56.name, by decide, Try.func56.trans (congrArg some (by kernel_rfl))⟩,
  f25 := ⟨Try.f57.name, by decide, Try.func57.trans (congrArg some (by kernel_rfl))⟩,
  f26 := ⟨Try.f58.name, by decide, Try.func58.trans (congrArg some (by kernel_rfl))⟩,
  f27 := ⟨Try.f59.name, by decide, Try.func59.trans (congrArg some (by kernel_rfl))⟩,
  f28 := Try.func60.trans (congrArg some (by kernel_rfl)),
  f29 := Try.func51.trans (congrArg some (by kernel_rfl)),
  f46 := ⟨Try.f63.name, by decide, Try.func63.trans (congrArg some (by kernel_rfl))⟩,
  f47 := Try.func64.trans (congrArg some (by kernel_rfl)),
  f48 := Try.func65.trans (congrArg some (by kernel_rfl)),
  f49 := ⟨Try.f66.name, by decide, Try.func66.trans (congrArg some (by kernel_rfl))⟩,
  f50 := ⟨Try.f67.name, by decide, Try.func67.trans (congrArg some (by kernel_rfl))⟩,
  f57 := ⟨Try.f68.name, by decide, Try.func68.trans (congrArg some (by kernel_rfl))⟩,
  t0 := Try.underlying0,
  a0 := Try.isAgg0,
  z0 := Try.sizeOf0,
  v0 := Try.zeroValue0,
  t3 := Try.underlying3,
  a3 := Try.isAgg3,
  z3 := Try.sizeOf3,
  v3 := Try.zeroValue3,
  t4 := Try.underlying4,
  a4 := Try.isAgg4,
  z4 := Try.sizeOf4,
  v4 := Try.zeroValue4,
  t5 := Try.underlying5,
  a5 := Try.isAgg5,
  z5 := Try.sizeOf5,
  v5 := Try.zeroValue5,
  t9 := Try.underlying9,
  a9 := Try.isAgg9,
  z9 := Try.sizeOf9,
  v9 := Try.zeroValue9,
  t22 := Try.underlying40,
  a22 := Try.isAgg40,
  z22 := Try.sizeOf40,
  v22 := Try.zeroValue40,
  t25 := Try.underlying77,
  a25 := Try.isAgg77,
  z25 := Try.sizeOf77,
  v25 := Try.zeroValue77,
  t39 := Try.underlying39,
  a39 := Try.isAgg39,
  z39 := Try.sizeOf39,
  v39 := Try.zeroValue39,
  t45 := Try.underlying91,
  a45 := Try.isAgg91,
  z45 := Try.sizeOf91,
  v45 := Try.zeroValue91,
  t46 := Try.underlying92,
  a46 := Try.isAgg92,
  z46 := Try.sizeOf92,
  v46 := Try.zeroValue92,
  t50 := Try.underlying83,
  a50 := Try.isAgg83,
  z50 := Try.sizeOf83,
  v50 := Try.zeroValue83,
  t53 := Try.underlying27,
  a53 := Try.isAgg27,
  z53 := Try.sizeOf27,
  v53 := Try.zeroValue27,
  t55 := Try.underlying64,
  a55 := Try.isAgg64,
  z55 := Try.sizeOf64,
  v55 := Try.zeroValue64,
  t66 := Try.underlying100,
  a66 := Try.isAgg100,
  z66 := Try.sizeOf100,
  v66 := Try.zeroValue100,
  t70 := Try.underlying104,
  a70 := Try.isAgg104,
  z70 := Try.sizeOf104,
  v70 := Try.zeroValue104,
  t76 := Try.underlying106,
  a76 := Try.isAgg106,
  z76 := Try.sizeOf106,
  v76 := Try.zeroValue106,
  t77 := Try.underlying33,
  a77 := Try.isAgg33,
  z77 := Try.sizeOf33,
  v77 := Try.zeroValue33 }


theorem ltK (x y : Key) : ltOf cmpK x y = less x y := cmpK_less x y
theorem swoK : SWO (ltOf cmpK) where
  irrefl x := by rw [ltK]; exact less_irrefl x
  trans x y z h1 h2 := by rw [ltK] at *; exact less_trans h1 h2
  ntrans x y z h1 h2 := by
    rw [ltK] at *
    cases h : less x z with
    | false => rfl
    | true =>
      exfalso
      rw [less_iff] at h
      have e1 : ¬ _ := fun h => Bool.false_ne_true (h1.symm.trans ((less_iff x y).2 h))
      have e2 : ¬ _ := fun h => Bool.false_ne_true (h2.symm.trans ((less_iff y z).2 h))
      simp only [El] at *
      omega
noncomputable def srt (l : List Key) : List Key := l.mergeSort fun x y => !(ltOf cmpK) y x
noncomputable def F39 (K : Nat) (x : Unit) (l : List Key) : Option (List Key) := if l.length < 4611686018427387904 then some (srt l) else none
theorem has40 (x y : Key) : Has True Try.prog 40 [.agg (cellsOf T45 x), .agg (cellsOf T45 y)] (dec1 (sdInt .i64)) (cmpK x y) := has_of (cok40 4) Try.func40 ((ev40 (F49 4) (F50 4) (F48 4) 4 x y).trans (F40_eq 4 (by omega) x y))
theorem ok39 (K : Nat) : RowW D Try.prog 39 (rowW T45 ad39 (F39 K) false) := rowW_ok fun x l r h => by
  unfold F39 at h
  split at h
  · rename_i hlt
    cases h
    refine sort_has (t := T45) rfl (by simp [srt]) ?_ ?_
    · intro w b c S vals hS hnS hH hb hlc hc hV
      obtain ⟨u, us, rfl, ⟨caps, rfl, hcaps⟩, hus⟩ := hV
      rw [VsOK] at hus
      subst hus
      have hcaps' : caps = [] := hcaps
      subst hcaps'
      have := AnyQ.slices_SortFunc_total sort39 3 Try.isAgg45 Try.sizeOf45 (encT T45) (fun x => encT_len x rfl) (fun x => encT_one x) cmpK swoK 40 #[] b 0 (c + 1) l.toArray w ent40 (cmp_lays rfl has40 b 0 l.length w) hH hb (by simpa using hlt) (fun x y h1 h2 => by rw [ltK] at h1 h2; exact less_total h1 h2)
      exact this
    · intro hl w A S vals hV
      obtain ⟨u, us, rfl, ⟨caps, rfl, hcaps⟩, hus⟩ := hV
      rw [VsOK] at hus
      subst hus
      refine (AnyF.slices_SortFunc_none sort39 A 0 _ w).mono ?_
      rintro e w' ⟨rfl, rfl⟩
      exact ⟨rfl, ⟨rfl, rfl, rfl, Nat.le_refl _, fun _ _ => rfl⟩, fun _ => Nat.le_refl _⟩
  · cases h
end Go.Proofs.YtgkmfhmodojdcaaE
