/- Gang: the library's sort of cells, as a plain function. -/
import Derived.Test.YtlpalhgiiodjoaaS16F4
import Derived.Test.YtlpalhgiiodjoaaEngS
import Derived.Test.YtlpalhgiiodjoaaPu0
import Derived.Shelf.SlSortCmp.NoneTotal
import Derived.Sort.AssemblyPlain
set_option linter.all false
namespace Go.Proofs.YtlpalhgiiodjoaaE
open Go Go.Proofs Go.Shelf Go.Sort
set_option maxRecDepth 100000
set_option linter.unusedVariables false
variable {D : Prop}
def sort49_ren : Go.Shelf.Ren := ⟨fun | 6 => 49 | 15 => 48 | 14 => 69 | 28 => 67 | 29 => 68 | 20 => 77 | 21 => 78 | 22 => 79 | 23 => 80 | 24 => 81 | 25 => 82 | 26 => 83 | 27 => 84 | 46 => 86 | 47 => 72 | 48 => 73 | 49 => 87 | 50 => 88 | 57 => 89 | n => n, fun | 22 => 25 | 24 => 34 | 25 => 81 | 3 => 3 | 39 => 40 | 0 => 0 | 53 => 30 | 55 => 63 | 4 => 4 | 46 => 88 | 45 => 87 | 50 => 93 | 5 => 5 | 9 => 9 | 66 => 98 | 70 => 102 | 76 => 110 | 77 => 111 | n => n, fun | n => n⟩
theorem sort49 : Go.Proofs.SlLaysF0.n6 Try.prog sort49_ren := {
  mixed := by kernel_rfl,
  f6 := ⟨Try.f49.name, by decide, Try.func49.trans (congrArg some (by kernel_rfl))⟩,
  f14 := ⟨Try.f69.name, by decide, Try.func69.trans (congrArg some (by kernel_rfl))⟩,
  f15 := Try.func48.trans (congrArg some (by kernel_rfl)),
  f20 := ⟨Try.f77.name, by decide, Try.func77.trans (congrArg some (by kernel_rfl))⟩,
  f21 := ⟨Try.f78.name, by decide, Try.func78.trans (congrArg some (by kernel_rfl))⟩,
  f22 := ⟨Try.f79.name, by decide, Try.func79.trans (congrArg some (by kernel_rfl))⟩,
  f23 := ⟨Try.f80.name, by decide, Try.func80.trans (congrArg some (by kernel_rfl))⟩,
  f24 := ⟨Try.f81.name, by decide, Try.func81.trans (congrArg some (by kernel_rfl))⟩,
  f25 := ⟨Try.f82.name, by decide, Try.func82.trans (congrArg some (by kernel_rfl))⟩,
  f26 := ⟨Try.f83.name, by decide, Try.func83.trans (congrArg some (by kernel_rfl))⟩,
  f27 := ⟨Try.f84.name, by decide, Try.func84.trans (congrArg some (by kernel_rfl))⟩,
  f28 := Try.func67.trans (congrArg some (by kernel_rfl)),
  f29 := Try.func68.trans (congrArg some (by kernel_rfl)),
  f46 := ⟨Try.f86.name, by decide, Try.func86.trans (congrArg some (by kernel_rfl))⟩,
  f47 := Try.func72.trans (congrArg some (by kernel_rfl)),
  f48 := Try.func73.trans (congrArg some (by kernel_rfl)),
  f49 := ⟨Try.f87.name, by decide, Try.func87.trans (congrArg some (by kernel_rfl))⟩,
  f50 := ⟨Try.f88.name, by decide, Try.func88.trans (congrArg some (by kernel_rfl))⟩,
  f57 := ⟨Try.f89.name, by decide, Try.func89.trans (congrArg some (by kernel_rfl))⟩,
  t0 := Try.underlying0,
  a0 := Try.isAgg0,
  z0 := Try.sizeOf0,
  v0 := Try.zeroValue0,
  t3 := Try.underlying3,
  a3 := Try.isAgg3,
  z3 := Try.sizeOf3,
  v3 := Try.zeroValue3,
  t4 := Try.underlying4,
  a4 := Try.isAgg4,
  z4 := Try.sizeOf4,
  v4 := Try.zeroValue4,
  t5 := Try.underlying5,
  a5 := Try.isAgg5,
  z5 := Try.sizeOf5,
  v5 := Try.zeroValue5,
  t9 := Try.underlying9,
  a9 := Try.isAgg9,
  z9 := Try.sizeOf9,
  v9 := Try.zeroValue9,
  t22 := Try.underlying25,
  a22 := Try.isAgg25,
  z22 := Try.sizeOf25,
  v22 := Try.zeroValue25,
  t25 := Try.underlying81,
  a25 := Try.isAgg81,
  z25 := Try.sizeOf81,
  v25 := Try.zeroValue81,
  t39 := Try.underlying40,
  a39 := Try.isAgg40,
  z39 := Try.sizeOf40,
  v39 := Try.zeroValue40,
  t45 := Try.underlying87,
  a45 := Try.isAgg87,
  z45 := Try.sizeOf87,
  v45 := Try.zeroValue87,
  t46 := Try.underlying88,
  a46 := Try.isAgg88,
  z46 := Try.sizeOf88,
  v46 := Try.zeroValue88,
  t50 := Try.underlying93,
  a50 := Try.isAgg93,
  z50 := Try.sizeOf93,
  v50 := Try.zeroValue93,
  t53 := Try.underlying30,
  a53 := Try.isAgg30,
  z53 := Try.sizeOf30,
  v53 := Try.zeroValue30,
  t55 := Try.underlying63,
  a55 := Try.isAgg63,
  z55 := Try.sizeOf63,
  v55 := Try.zeroValue63,
  t66 := Try.underlying98,
  a66 := Try.isAgg98,
  z66 := Try.sizeOf98,
  v66 := Try.zeroValue98,
  t70 := Try.underlying102,
  a70 := Try.isAgg102,
  z70 := Try.sizeOf102,
  v70 := Try.zeroValue102,
  t76 := Try.underlying110,
  a76 := Try.isAgg110,
  z76 := Try.sizeOf110,
  v76 := Try.zeroValue110,
  t77 := Try.underlying111,
  a77 := Try.isAgg111,
  z77 := Try.sizeOf111,
  v77 := Try.zeroValue111 }

abbrev Ce := El T34
def cmpI (x y : Int) : Int := if x < y then -1 else if x > y then 1 else 0
def cmpC (a b : Ce) : Int := if cmpI a.2.1 b.2.1 ≠ 0 then cmpI a.2.1 b.2.1 else cmpI a.2.2.1 b.2.2.1
theorem F70_eq (K : Nat) (x : Int) : F70 K x = some false := by
  simp [F70, G70, t70]
theorem F52_eq (K : Nat) (x y : Int) : F52 K x y = some (cmpI x y) := by
  unfold F52 G52 t52 cmpI
  simp only [F70_eq, Option.bind_some]
  by_cases h1 : x < y <;> by_cases h2 : x > y <;> simp [h1, h2] <;> omega
theorem F51_eq (K : Nat) (hK : 3 ≤ K) (x y : Int) : F51 K [x, y] = some (if x ≠ 0 then x else y) := by
  obtain ⟨k, rfl⟩ : ∃ k, K = k + 3 := ⟨K - 3, by omega⟩
  have e1 : IntKind.i64.wrap ((0 : Int) + 1) = 1 := by rw [i64_in] <;> omega
  have e2 : IntKind.i64.wrap ((1 : Int) + 1) = 2 := by rw [i64_in] <;> omega
  simp only [F51, G51, t51, L51_0, b51_0, e1, e2]
  by_cases c1 : x = 0
  · by_cases c2 : y = 0
    · simp [c1, c2]
    · simp [c1, c2]
  · simp [c1]
theorem F50_eq (K : Nat) (hK : 3 ≤ K) (a b : Ce) : F50 K a b = some (cmpC a b) := by
  simp only [F50, G50, t50, F52_eq, Option.bind_some, F51_eq K hK, cmpC]
theorem cmpI_neg (x y : Int) : cmpI x y < 0 ↔ x < y := by
  unfold cmpI
  (repeat' split) <;> omega
theorem cmpI_zero (x y : Int) : cmpI x y = 0 ↔ x = y := by
  unfold cmpI
  (repeat' split) <;> omega
theorem ltC_iff (a b : Ce) : ltOf cmpC a b = true ↔ (a.2.1 : Int) < b.2.1 ∨ (a.2.1 : Int) = b.2.1 ∧ (a.2.2.1 : Int) < b.2.2.1 := by
  unfold ltOf cmpC
  have z1 := cmpI_zero a.2.1 b.2.1
  have n1 := cmpI_neg a.2.1 b.2.1
  have n2 := cmpI_neg a.2.2.1 b.2.2.1
  simp only [decide_eq_true_eq]
  by_cases c1 : cmpI a.2.1 b.2.1 = 0
  · have := z1.1 c1
    simp only [c1, ne_eq, not_true_eq_false, if_false]
    simp only [El] at *
    omega
  · have := fun h => c1 (z1.2 h)
    simp only [c1, ne_eq, not_false_eq_true, if_true]
    simp only [El] at *
    omega
theorem swoC : SWO (ltOf cmpC) where
  irrefl x := by
    cases h : ltOf cmpC x x with
    | false => rfl
    | true => rw [ltC_iff] at h; simp only [El] at *; omega
  trans x y z h1 h2 := by rw [ltC_iff] at *; simp only [El] at *; omega
  ntrans x y z h1 h2 := by
    cases h : ltOf cmpC x z with
    | false => rfl
    | true =>
      exfalso
      rw [ltC_iff] at h
      have e1 : ¬ _ := fun h => Bool.false_ne_true (h1.symm.trans ((ltC_iff x y).2 h))
      have e2 : ¬ _ := fun h => Bool.false_ne_true (h2.symm.trans ((ltC_iff y z).2 h))
      simp only [El] at *
      omega
/-- a cell's place: row, start -/
def keyC (c : Ce) : Int × Int := (c.2.1, c.2.2.1)
def ins1 (c : Ce) : List Ce → List Ce
  | [] => [c]
  | d :: r => if ltOf cmpC d c then d :: ins1 c r else c :: d :: r
/-- the row of cells, sorted by row and start -/
def insC : List Ce → List Ce
  | [] => []
  | c :: r => ins1 c (insC r)
theorem ins1_perm (c : Ce) : ∀ l, (ins1 c l).Perm (c :: l)
  | [] => List.Perm.refl _
  | d :: r => by
    unfold ins1
    split
    · exact ((ins1_perm c r).cons d).trans (List.Perm.swap _ _ _)
    · exact List.Perm.refl _
theorem insC_perm : ∀ l, (insC l).Perm l
  | [] => List.Perm.refl _
  | c :: r => (ins1_perm c (insC r)).trans ((insC_perm r).cons c)
def LeC (a b : Ce) : Prop := ltOf cmpC b a = false
theorem leC_iff (a b : Ce) : LeC a b ↔ (a.2.1 : Int) < b.2.1 ∨ (a.2.1 : Int) = b.2.1 ∧ (a.2.2.1 : Int) ≤ b.2.2.1 := by
  unfold LeC
  rw [← Bool.not_eq_true, ltC_iff]
  simp only [El] at *
  omega
theorem leC_trans {a b c : Ce} (h1 : LeC a b) (h2 : LeC b c) : LeC a c := by rw [leC_iff] at *; simp only [El] at *; omega
theorem ins1_sorted (c : Ce) : ∀ l, l.Pairwise LeC → (ins1 c l).Pairwise LeC
  | [], _ => List.pairwise_singleton _ _
  | d :: r, h => by
    unfold ins1
    have h' := List.pairwise_cons.1 h
    split
    · rename_i hlt
      refine List.pairwise_cons.2 ⟨fun x hx => ?_, ins1_sorted c r h'.2⟩
      rcases List.mem_cons.1 ((ins1_perm c r).mem_iff.1 hx) with rfl | hx
      · rw [leC_iff]; rw [ltC_iff] at hlt; simp only [El] at *; omega
      · exact h'.1 x hx
    · rename_i hlt
      have hcd : LeC c d := (Bool.not_eq_true _).mp hlt
      refine List.pairwise_cons.2 ⟨fun x hx => ?_, h⟩
      rcases List.mem_cons.1 hx with rfl | hx
      · exact hcd
      · exact leC_trans hcd (h'.1 x hx)
theorem insC_sorted : ∀ l, (insC l).Pairwise LeC
  | [] => List.Pairwise.nil
  | c :: r => ins1_sorted c _ (insC_sorted r)
theorem key_inj : ∀ {l : List Ce}, (l.map keyC).Nodup → ∀ a b, a ∈ l → b ∈ l → keyC a = keyC b → a = b
  | x :: l, h, a, b, ha, hb, e => by
    rw [List.map_cons, List.nodup_cons] at h
    rcases List.mem_cons.1 ha with rfl | ha' <;> rcases List.mem_cons.1 hb with rfl | hb'
    · rfl
    · exact absurd (List.mem_map.2 ⟨b, hb', e.symm⟩) h.1
    · exact absurd (List.mem_map.2 ⟨a, ha', e⟩) h.1
    · exact key_inj h.2 a b ha' hb' e
/-- sorted rows of the same cells, no two of one place, are one -/
theorem sorted_one {l l1 l2 : List Ce} (hk : (l.map keyC).Nodup) (p1 : l1.Perm l) (p2 : l2.Perm l) (s1 : l1.Pairwise LeC) (s2 : l2.Pairwise LeC) : l1 = l2 := by
  refine List.Perm.eq_of_pairwise (le := LeC) (fun a b ha hb h1 h2 => ?_) s1 s2 (p1.trans p2.symm)
  refine key_inj hk a b (p1.mem_iff.1 ha) (p2.mem_iff.1 hb) ?_
  rw [leC_iff] at h1 h2
  refine Prod.ext ?_ ?_ <;> (simp only [keyC, El] at *; omega)
theorem pdq_one (l : List Ce) (hk : (l.map keyC).Nodup) : (pdq (ltOf cmpC) l.toArray 0 l.toArray.size (Lib.bitLen l.toArray.size) true true).toList = insC l := by
  obtain ⟨h1, h2⟩ := pdq_sorts (ltOf cmpC) swoC l.toArray 0 l.toArray.size (Lib.bitLen l.toArray.size) true true (Nat.zero_le _) (Nat.le_refl _) (Or.inl rfl)
  obtain ⟨hsz, _, hp⟩ := h1
  generalize pdq (ltOf cmpC) l.toArray 0 l.toArray.size (Lib.bitLen l.toArray.size) true true = d at *
  have e1 : d.extract 0 l.toArray.size = d := by rw [← hsz]; exact Array.extract_size
  rw [e1, Array.extract_size] at hp
  refine sorted_one hk hp (insC_perm l) ?_ (insC_sorted l)
  rw [List.pairwise_iff_getElem]
  intro i j hi hj hij
  have hj' : j < d.size := by simpa using hj
  have hi' : i < d.size := by simpa using hi
  have := h2 i j (Nat.zero_le _) hij (by rw [← hsz]; exact hj')
  unfold LeC
  rw [getElem!_pos d j hj', getElem!_pos d i hi'] at this
  simpa using this
def F49 (K : Nat) (x : Unit) (l : List Ce) : Option (List Ce) := if l.length < 4611686018427387904 ∧ (l.map keyC).Nodup then some (insC l) else none
theorem has50 (x y : Ce) : Has True Try.prog 50 [.agg (cellsOf T34 x), .agg (cellsOf T34 y)] (dec1 (sdInt .i64)) (cmpC x y) := has_of (cok50 4) Try.func50 ((ev50 (F52 4) (F51 4) 4 x y).trans (F50_eq 4 (by omega) x y))
theorem ok49 (K : Nat) : RowW D Try.prog 49 (rowW T34 ad49 (F49 K) false) := rowW_ok fun x l r h => by
  unfold F49 at h
  split at h
  · rename_i hlt
    obtain ⟨hlt, hk⟩ := hlt
    cases h
    refine sort_has (t := T34) rfl (insC_perm l).length_eq ?_ ?_
    · intro w b c S vals hS hnS hH hb hlc hc hV
      obtain ⟨u, us, rfl, ⟨caps, rfl, hcaps⟩, hus⟩ := hV
      rw [VsOK] at hus
      subst hus
      have hcaps' : caps = [] := hcaps
      subst hcaps'
      have := AnyQ.slices_SortFunc_eq sort49 4 Try.isAgg34 Try.sizeOf34 (encT T34) (fun x => encT_len x rfl) (fun x => encT_one x) cmpC swoC 50 #[] b 0 (c + 1) l.toArray w ent50 (cmp_lays rfl has50 b 0 l.length w) hH hb (by simpa using hlt)
      refine this.mono ?_
      rintro e w' ⟨rfl, n, os, rfl⟩
      refine ⟨rfl, n, os, ?_⟩
      rw [← pdq_one l hk, Array.toArray_toList]
      rfl
    · intro hl w A S vals hV
      obtain ⟨u, us, rfl, ⟨caps, rfl, hcaps⟩, hus⟩ := hV
      rw [VsOK] at hus
      subst hus
      refine (AnyF.slices_SortFunc_none sort49 A 0 _ w).mono ?_
      rintro e w' ⟨rfl, rfl⟩
      exact ⟨rfl, ⟨rfl, rfl, rfl, Nat.le_refl _, fun _ _ => rfl⟩, fun _ => Nat.le_refl _⟩
  · cases h
end Go.Proofs.YtlpalhgiiodjoaaE
