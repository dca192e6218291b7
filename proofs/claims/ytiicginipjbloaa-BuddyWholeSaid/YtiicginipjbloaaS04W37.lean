/- Buddy: the library's sort of blocks by their begin, as a plain function. -/
import Derived.Test.YtiicginipjbloaaS04F6
import Derived.Test.YtiicginipjbloaaEngS
import Derived.Test.YtiicginipjbloaaPu0
import Derived.Shelf.SlSortCmp.NoneTotal
import Derived.Sort.AssemblyPlain
set_option linter.all false
namespace Go.Proofs.YtiicginipjbloaaE
open Go Go.Proofs Go.Shelf Go.Sort
set_option maxRecDepth 100000
set_option linter.unusedVariables false
variable {D : Prop}
def sort37_ren : Go.Shelf.Ren := ⟨fun | 6 => 37 | 15 => 65 | 14 => 64 | 28 => 83 | 29 => 84 | 20 => 75 | 21 => 76 | 22 => 77 | 23 => 78 | 24 => 79 | 25 => 80 | 26 => 81 | 27 => 82 | 46 => 89 | 47 => 90 | 48 => 91 | 49 => 92 | 50 => 93 | 57 => 96 | n => n, fun | 22 => 25 | 24 => 29 | 25 => 68 | 3 => 3 | 39 => 27 | 0 => 0 | 53 => 105 | 55 => 107 | 4 => 4 | 46 => 99 | 45 => 98 | 50 => 72 | 5 => 5 | 9 => 9 | 66 => 110 | 70 => 114 | 76 => 117 | 77 => 58 | n => n, fun | n => n⟩
theorem sort37 : Go.Proofs.SlLaysF0.n6 Try.prog sort37_ren := {
  mixed := by kernel_rfl,
  f6 := ⟨Try.f37.name, by decide, Try.func37.trans (congrArg some (by kernel_rfl))⟩,
  f14 := ⟨Try.f64.name, by decide, Try.func64.trans (congrArg some (by kernel_rfl))⟩,
  f15 := Try.func65.trans (congrArg some (by kernel_rfl)),
  f20 := ⟨Try.f75.name, by decide, Try.func75.trans (congrArg some (by kernel_rfl))⟩,
  f21 := ⟨Try.f76.name, by decide, Try.func76.trans (congrArg some (by kernel_rfl))⟩,
  f22 := ⟨Try.f77.name, by decide, Try.func77.trans (congrArg some (by kernel_rfl))⟩,
  f23 := ⟨Try.f78.name, by decide, Try.func78.trans (congrArg some (by kernel_rfl))⟩,
  f24 := ⟨Try.f79.name, by decide, Try.func79.trans (congrArg some (by kernel_rfl))⟩,
  f25 := ⟨Try.f80.name, by decide, Try.func80.trans (congrArg some (by kernel_rfl))⟩,
  f26 := ⟨Try.f81.name, by decide, Try.func81.trans (congrArg some (by kernel_rfl))⟩,
  f27 := ⟨Try.f82.name, by decide, Try.func82.trans (congrArg some (by kernel_rfl))⟩,
  f28 := Try.func83.trans (congrArg some (by kernel_rfl)),
  f29 := Try.func84.trans (congrArg some (by kernel_rfl)),
  f46 := ⟨Try.f89.name, by decide, Try.func89.trans (congrArg some (by kernel_rfl))⟩,
  f47 := Try.func90.trans (congrArg some (by kernel_rfl)),
  f48 := Try.func91.trans (congrArg some (by kernel_rfl)),
  f49 := ⟨Try.f92.name, by decide, Try.func92.trans (congrArg some (by kernel_rfl))⟩,
  f50 := ⟨Try.f93.name, by decide, Try.func93.trans (congrArg some (by kernel_rfl))⟩,
  f57 := ⟨Try.f96.name, by decide, Try.func96.trans (congrArg some (by kernel_rfl))⟩,
  t0 := Try.underlying0,
  a0 := Try.isAgg0,
  z0 := Try.sizeOf0,
  v0 := Try.zeroValue0,
  t3 := Try.underlying3,
  a3 := Try.isAgg3,
  z3 := Try.sizeOf3,
  v3 := Try.zeroValue3,
  t4 := Try.underlying4,
  a4 := Try.isAgg4,
  z4 := Try.sizeOf4,
  v4 := Try.zeroValue4,
  t5 := Try.underlying5,
  a5 := Try.isAgg5,
  z5 := Try.sizeOf5,
  v5 := Try.zeroValue5,
  t9 := Try.underlying9,
  a9 := Try.isAgg9,
  z9 := Try.sizeOf9,
  v9 := Try.zeroValue9,
  t22 := Try.underlying25,
  a22 := Try.isAgg25,
  z22 := Try.sizeOf25,
  v22 := Try.zeroValue25,
  t25 := Try.underlying68,
  a25 := Try.isAgg68,
  z25 := Try.sizeOf68,
  v25 := Try.zeroValue68,
  t39 := Try.underlying27,
  a39 := Try.isAgg27,
  z39 := Try.sizeOf27,
  v39 := Try.zeroValue27,
  t45 := Try.underlying98,
  a45 := Try.isAgg98,
  z45 := Try.sizeOf98,
  v45 := Try.zeroValue98,
  t46 := Try.underlying99,
  a46 := Try.isAgg99,
  z46 := Try.sizeOf99,
  v46 := Try.zeroValue99,
  t50 := Try.underlying72,
  a50 := Try.isAgg72,
  z50 := Try.sizeOf72,
  v50 := Try.zeroValue72,
  t53 := Try.underlying105,
  a53 := Try.isAgg105,
  z53 := Try.sizeOf105,
  v53 := Try.zeroValue105,
  t55 := Try.underlying107,
  a55 := Try.isAgg107,
  z55 := Try.sizeOf107,
  v55 := Try.zeroValue107,
  t66 := Try.underlying110,
  a66 := Try.isAgg110,
  z66 := Try.sizeOf110,
  v66 := Try.zeroValue110,
  t70 := Try.underlying114,
  a70 := Try.isAgg114,
  z70 := Try.sizeOf114,
  v70 := Try.zeroValue114,
  t76 := Try.underlying117,
  a76 := Try.isAgg117,
  z76 := Try.sizeOf117,
  v76 := Try.zeroValue117,
  t77 := Try.underlying58,
  a77 := Try.isAgg58,
  z77 := Try.sizeOf58,
  v77 := Try.zeroValue58 }


abbrev Bk := El T29
def cmpI (x y : Int) : Int := if x < y then -1 else if x > y then 1 else 0
def cmpB (a b : Bk) : Int := cmpI a.1 b.1
theorem F66_eq (K : Nat) (x : Int) : F66 K x = some false := by
  simp [F66, G66, t66]
theorem F39_eq (K : Nat) (x y : Int) : F39 K x y = some (cmpI x y) := by
  unfold F39 G39 t39 cmpI
  simp only [F66_eq, Option.bind_some]
  by_cases h1 : x < y <;> by_cases h2 : x > y <;> simp [h1, h2] <;> omega
theorem F38_eq (K : Nat) (a b : Bk) : F38 K a b = some (cmpB a b) := by
  simp only [F38, G38, t38, F39_eq, Option.bind_some, cmpB]
theorem cmpI_neg (x y : Int) : cmpI x y < 0 ↔ x < y := by
  unfold cmpI
  (repeat' split) <;> omega
theorem cmpI_zero (x y : Int) : cmpI x y = 0 ↔ x = y := by
  unfold cmpI
  (repeat' split) <;> omega
theorem ltB_iff (a b : Bk) : ltOf cmpB a b = true ↔ (a.1 : Int) < b.1 := by
  unfold ltOf cmpB
  rw [decide_eq_true_eq, cmpI_neg]
theorem swoB : SWO (ltOf cmpB) where
  irrefl x := by
    cases h : ltOf cmpB x x with
    | false => rfl
    | true => rw [ltB_iff] at h; simp only [El] at *; omega
  trans x y z h1 h2 := by rw [ltB_iff] at *; simp only [El] at *; omega
  ntrans x y z h1 h2 := by
    cases h : ltOf cmpB x z with
    | false => rfl
    | true =>
      exfalso
      rw [ltB_iff] at h
      have e1 : ¬ _ := fun h => Bool.false_ne_true (h1.symm.trans ((ltB_iff x y).2 h))
      have e2 : ¬ _ := fun h => Bool.false_ne_true (h2.symm.trans ((ltB_iff y z).2 h))
      simp only [El] at *
      omega
/-- a block's begin -/
def keyB (c : Bk) : Int := c.1
def ins1 (c : Bk) : List Bk → List Bk
  | [] => [c]
  | d :: r => if ltOf cmpB d c then d :: ins1 c r else c :: d :: r
/-- the blocks, sorted by their begin -/
def insB : List Bk → List Bk
  | [] => []
  | c :: r => ins1 c (insB r)
theorem ins1_perm (c : Bk) : ∀ l, (ins1 c l).Perm (c :: l)
  | [] => List.Perm.refl _
  | d :: r => by
    unfold ins1
    split
    · exact ((ins1_perm c r).cons d).trans (List.Perm.swap _ _ _)
    · exact List.Perm.refl _
theorem insB_perm : ∀ l, (insB l).Perm l
  | [] => List.Perm.refl _
  | c :: r => (ins1_perm c (insB r)).trans ((insB_perm r).cons c)
def LeB (a b : Bk) : Prop := ltOf cmpB b a = false
theorem leB_iff (a b : Bk) : LeB a b ↔ (a.1 : Int) ≤ b.1 := by
  unfold LeB
  rw [← Bool.not_eq_true, ltB_iff]
  simp only [El] at *
  omega
theorem leB_trans {a b c : Bk} (h1 : LeB a b) (h2 : LeB b c) : LeB a c := by rw [leB_iff] at *; simp only [El] at *; omega
theorem ins1_sorted (c : Bk) : ∀ l, l.Pairwise LeB → (ins1 c l).Pairwise LeB
  | [], _ => List.pairwise_singleton _ _
  | d :: r, h => by
    unfold ins1
    have h' := List.pairwise_cons.1 h
    split
    · rename_i hlt
      refine List.pairwise_cons.2 ⟨fun x hx => ?_, ins1_sorted c r h'.2⟩
      rcases List.mem_cons.1 ((ins1_perm c r).mem_iff.1 hx) with rfl | hx
      · rw [leB_iff]; rw [ltB_iff] at hlt; simp only [El] at *; omega
      · exact h'.1 x hx
    · rename_i hlt
      have hcd : LeB c d := (Bool.not_eq_true _).mp hlt
      refine List.pairwise_cons.2 ⟨fun x hx => ?_, h⟩
      rcases List.mem_cons.1 hx with rfl | hx
      · exact hcd
      · exact leB_trans hcd (h'.1 x hx)
theorem insB_sorted : ∀ l, (insB l).Pairwise LeB
  | [] => List.Pairwise.nil
  | c :: r => ins1_sorted c _ (insB_sorted r)
theorem key_inj : ∀ {l : List Bk}, (l.map keyB).Nodup → ∀ a b, a ∈ l → b ∈ l → keyB a = keyB b → a = b
  | x :: l, h, a, b, ha, hb, e => by
    rw [List.map_cons, List.nodup_cons] at h
    rcases List.mem_cons.1 ha with rfl | ha' <;> rcases List.mem_cons.1 hb with rfl | hb'
    · rfl
    · exact absurd (List.mem_map.2 ⟨b, hb', e.symm⟩) h.1
    · exact absurd (List.mem_map.2 ⟨a, ha', e⟩) h.1
    · exact key_inj h.2 a b ha' hb' e
/-- sorted rows of the same cells, no two of one begin, are one -/
theorem sorted_one {l l1 l2 : List Bk} (hk : (l.map keyB).Nodup) (p1 : l1.Perm l) (p2 : l2.Perm l) (s1 : l1.Pairwise LeB) (s2 : l2.Pairwise LeB) : l1 = l2 := by
  refine List.Perm.eq_of_pairwise (le := LeB) (fun a b ha hb h1 h2 => ?_) s1 s2 (p1.trans p2.symm)
  refine key_inj hk a b (p1.mem_iff.1 ha) (p2.mem_iff.1 hb) ?_
  rw [leB_iff] at h1 h2
  (simp only [keyB, El] at *; omega)
theorem pdq_one (l : List Bk) (hk : (l.map keyB).Nodup) : (pdq (ltOf cmpB) l.toArray 0 l.toArray.size (Lib.bitLen l.toArray.size) true true).toList = insB l := by
  obtain ⟨h1, h2⟩ := pdq_sorts (ltOf cmpB) swoB l.toArray 0 l.toArray.size (Lib.bitLen l.toArray.size) true true (Nat.zero_le _) (Nat.le_refl _) (Or.inl rfl)
  obtain ⟨hsz, _, hp⟩ := h1
  generalize pdq (ltOf cmpB) l.toArray 0 l.toArray.size (Lib.bitLen l.toArray.size) true true = d at *
  have e1 : d.extract 0 l.toArray.size = d := by rw [← hsz]; exact Array.extract_size
  rw [e1, Array.extract_size] at hp
  refine sorted_one hk hp (insB_perm l) ?_ (insB_sorted l)
  rw [List.pairwise_iff_getElem]
  intro i j hi hj hij
  have hj' : j < d.size := by simpa using hj
  have hi' : i < d.size := by simpa using hi
  have := h2 i j (Nat.zero_le _) hij (by rw [← hsz]; exact hj')
  unfold LeB
  rw [getElem!_pos d j hj', getElem!_pos d i hi'] at this
  simpa using this
def F37 (K : Nat) (x : Unit) (l : List Bk) : Option (List Bk) := if l.length < 4611686018427387904 ∧ (l.map keyB).Nodup then some (insB l) else none
theorem has38 (x y : Bk) : Has True Try.prog 38 [.agg (cellsOf T29 x), .agg (cellsOf T29 y)] (dec1 (sdInt .i64)) (cmpB x y) := has_of (cok38 4) Try.func38 ((ev38 (F39 4) 4 x y).trans (F38_eq 4 x y))
theorem ok37 (K : Nat) : RowW D Try.prog 37 (rowW T29 ad37 (F37 K) false) := rowW_ok fun x l r h => by
  unfold F37 at h
  split at h
  · rename_i hlt
    obtain ⟨hlt, hk⟩ := hlt
    cases h
    refine sort_has (t := T29) rfl (insB_perm l).length_eq ?_ ?_
    · intro w b c S vals hS hnS hH hb hlc hc hV
      obtain ⟨u, us, rfl, ⟨caps, rfl, hcaps⟩, hus⟩ := hV
      rw [VsOK] at hus
      subst hus
      have hcaps' : caps = [] := hcaps
      subst hcaps'
      have := AnyQ.slices_SortFunc_eq sort37 2 Try.isAgg29 Try.sizeOf29 (encT T29) (fun x => encT_len x rfl) (fun x => encT_one x) cmpB swoB 38 #[] b 0 (c + 1) l.toArray w ent38 (cmp_lays rfl has38 b 0 l.length w) hH hb (by simpa using hlt)
      refine this.mono ?_
      rintro e w' ⟨rfl, n, os, rfl⟩
      refine ⟨rfl, n, os, ?_⟩
      rw [← pdq_one l hk, Array.toArray_toList]
      rfl
    · intro hl w A S vals hV
      obtain ⟨u, us, rfl, ⟨caps, rfl, hcaps⟩, hus⟩ := hV
      rw [VsOK] at hus
      subst hus
      refine (AnyF.slices_SortFunc_none sort37 A 0 _ w).mono ?_
      rintro e w' ⟨rfl, rfl⟩
      exact ⟨rfl, ⟨rfl, rfl, rfl, Nat.le_refl _, fun _ _ => rfl⟩, fun _ => Nat.le_refl _⟩
  · cases h
end Go.Proofs.YtiicginipjbloaaE
