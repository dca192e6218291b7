/- Backfill: the first free block; what the chapter's example fixes; BackfillScenes. -/
import Derived.Test.YtipfamkhplkpmaaP15B
set_option linter.all false
namespace Go.Proofs.YtipfamkhplkpmaaE
open Go Go.Proofs
set_option maxRecDepth 100000
set_option linter.unusedVariables false
structure OKS (s : Sc) : Prop where
  h0 : (0 : Int) ≤ s.1
  h1 : s.1 ≤ (10 : Int)
  hl : List.length s.2.2 ≤ 300
  hs : incr s.2.1
  hin : ∀ h ∈ s.2.2, In h.1
  hh : ∀ h ∈ s.2.2, okH s h = true
theorem oks_of {s : Sc} (h : okS s = true) : OKS s := by
  unfold okS at h
  simp only [Bool.and_eq_true, decide_eq_true_eq] at h
  obtain ⟨⟨⟨a1, a2, a3⟩, a4⟩, a5⟩ := h
  have hh : ∀ h ∈ s.2.2, okH s h = true := fun x hx => List.all_eq_true.1 a5 x hx
  refine ⟨a1, a2, a3, (okF_incr a4).2, fun x hx => ?_, hh⟩
  have := hh x hx
  unfold okH at this
  simp only [Bool.and_eq_true] at this
  exact in_of this.1 a2 a1
theorem chk_zero (s : Sc) : (chk s == 0) = okS s := by
  unfold chk
  cases okS s <;> rfl
theorem chk_ne (s : Sc) : (chk s != 0) = !okS s := by
  unfold chk
  cases okS s <;> rfl
section
variable {s : Sc} (hf : List.length s.2.1 ≤ 1200)
include hf
def freeF (s : Sc) (b : Bk) (f t : Int) : Bool := okS s && (fitsS s b && (decide (0 ≤ f) && (decide (f < t) && freeS s b f t)))
theorem F15_eq (b : Bk) (f t : Int) : F15 2000 s b f t = some (freeF s b f t) := by
  unfold F15 G15 t15 freeF
  rw [F18_eq 2000 (by omega) s (by omega) (by omega), Option.bind_some, chk_zero]
  cases hk : okS s with
  | false => rfl
  | true =>
    have O := oks_of hk
    rw [if_pos rfl, F28_eq 2000 s b O.h0 O.h1, Option.bind_some, Bool.true_and]
    cases hfit : fitsS s b with
    | false => rfl
    | true =>
      rw [if_pos rfl, Bool.true_and]
      by_cases c1 : 0 ≤ f
      · rw [if_pos (decide_eq_true c1), decide_eq_true c1, Bool.true_and]
        by_cases c2 : f < t
        · rw [if_pos (decide_eq_true c2), decide_eq_true c2, Bool.true_and, F29_eq 2000 s b f t O.hl (in_of hfit O.h1 O.h0) O.hin (by omega) (by omega) O.hs (by omega)]; rfl
        · rw [if_neg (by simpa using c2), decide_eq_false c2]; rfl
      · rw [if_neg (by simpa using c1), decide_eq_false c1]; rfl
theorem F22_eq (b : Bk) (f t : Int) : F22 2000 s b f t = some (freeF s b f t) := by
  unfold F22 G22 t22 freeF
  rw [F21_eq 2000 (by omega) s (by omega) (by omega), Option.bind_some, chk_zero]
  cases hk : okS s with
  | false => rfl
  | true =>
    have O := oks_of hk
    rw [if_pos rfl, F35_eq 2000 (by omega) s b O.h0 O.h1, Option.bind_some, Bool.true_and]
    cases hfit : fitsS s b with
    | false => rfl
    | true =>
      rw [if_pos rfl, Bool.true_and]
      by_cases c1 : 0 ≤ f
      · rw [if_pos (decide_eq_true c1), decide_eq_true c1, Bool.true_and]
        by_cases c2 : f < t
        · rw [if_pos (decide_eq_true c2), decide_eq_true c2, Bool.true_and, F36_eq 2000 (by omega) s b f t O.hl (in_of hfit O.h1 O.h0) O.hin (by omega) (by omega)]; rfl
        · rw [if_neg (by simpa using c2), decide_eq_false c2]; rfl
      · rw [if_neg (by simpa using c1), decide_eq_false c1]; rfl
end
/-- the first start of a free block -/
def fnd (s : Sc) (o f t : Int) : Nat → Int → Int × Bool
  | 0, _ => (0, false)
  | n + 1, st => if st < pw s.1 then (match freeS s (st, o) f t with
    | true => (st, true)
    | false => fnd s o f t n (st + pw o)) else (0, false)
theorem L33_eq {s : Sc} (hf : List.length s.2.1 ≤ 1200) (O : OKS s) (o f t : Int) (ho : 0 ≤ o) (ho' : o ≤ 10) : ∀ (n : Nat) (st : Int), 0 ≤ st → st ≤ 2048 → pw s.1 - st < n → 0 < n →
    L33_0 (F32 2000) (F29 2000) 2000 s o f t n st = some (fnd s o f t n st)
  | 0, st, h1, h2, h3, h4 => by omega
  | n + 1, st, h1, h2, h3, h4 => by
    have hp := pw_max O.h0 O.h1
    have hpo := pw_pos o
    have hpo' := pw_max ho ho'
    simp only [L33_0, b33_0, F32_eq 2000 s.1 O.h0 O.h1, Option.bind_some]
    unfold fnd
    by_cases c : st < pw s.1
    · have hb : In ((st, o) : Bk) := ⟨ho, ho', h1, show st ≤ 2000 by omega⟩
      have ew : IntKind.i64.wrap (st + pw o) = st + pw o := i64_in (by omega) (by omega)
      rw [if_pos (decide_eq_true c), if_pos c, F29_eq 2000 s (st, o) f t O.hl hb O.hin (by omega) (by omega) O.hs (by omega), Option.bind_some]
      cases freeS s (st, o) f t with
      | true => rfl
      | false =>
        rw [if_neg Bool.false_ne_true, F32_eq 2000 o ho ho', Option.bind_some, ew]
        exact L33_eq hf O o f t ho ho' n (st + pw o) (by omega) (by omega) (by omega) (by omega)
    · rw [if_neg (by simpa using c), if_neg c]
def findS (s : Sc) (o f t : Int) : Int × Bool := if 0 ≤ o ∧ o ≤ s.1 then fnd s o f t 2000 0 else (0, false)
theorem F33_eq {s : Sc} (hf : List.length s.2.1 ≤ 1200) (O : OKS s) (o f t : Int) : F33 2000 s o f t = some (findS s o f t) := by
  have hp := pw_max O.h0 O.h1
  have h1 := O.h1
  unfold F33 G33 t33 findS
  by_cases c1 : o < 0
  · rw [if_pos (decide_eq_true c1), if_neg (by omega)]
  · rw [if_neg (by simpa using c1)]
    by_cases c2 : o > s.1
    · rw [if_pos (decide_eq_true c2), if_neg (fun h => by have := h.2; simp only [El] at *; omega)]
    · rw [if_neg (by simpa using c2), if_pos ⟨by omega, by simp only [El] at *; omega⟩]
      exact L33_eq hf O o f t (by omega) (by simp only [El] at *; omega) 2000 0 (by omega) (by omega) (by omega) (by omega)
def atS (s : Sc) (o f t : Int) : Int × Bool := if okS s = true ∧ 0 ≤ f ∧ f < t then findS s o f t else (0, false)
theorem F19_eq {s : Sc} (hf : List.length s.2.1 ≤ 1200) (o f t : Int) : F19 2000 s o f t = some (atS s o f t) := by
  unfold F19 G19 t19 atS
  rw [F18_eq 2000 (by omega) s (by omega) (by omega), Option.bind_some, chk_ne]
  by_cases hk : okS s = true
  · have O := oks_of hk
    rw [hk, if_neg (by simp)]
    by_cases c1 : f < 0
    · rw [if_pos (decide_eq_true c1), if_neg (by omega)]
    · rw [if_neg (by simpa using c1)]
      by_cases c2 : t ≤ f
      · rw [if_pos (decide_eq_true c2), if_neg (by omega)]
      · rw [if_neg (by simpa using c2), if_pos ⟨rfl, by omega, by omega⟩, F33_eq hf O o f t]; rfl
  · rw [if_pos (by simpa using hk), if_neg (fun h => hk h.1)]
theorem mod_step {st o : Int} (h : st % pw o = 0) : (st + pw o) % pw o = 0 := by
  rw [Int.add_emod_right]
  exact h
theorem L20_eq {s : Sc} (hf : List.length s.2.1 ≤ 1200) (hk : okS s = true) (o f t : Int) (ho : 0 ≤ o) (ho' : o ≤ s.1) (hft : 0 ≤ f ∧ f < t) : ∀ (n : Nat) (st : Int), 0 ≤ st → st ≤ 2048 → st % pw o = 0 → pw s.1 - st < n → 0 < n →
    L20_0 (F21 2000) (F34 2000) (F22 2000) 2000 s o f t n (pw o) st = some (fnd s o f t n st)
  | 0, st, h1, h2, hm, h3, h4 => by omega
  | n + 1, st, h1, h2, hm, h3, h4 => by
    have O := oks_of hk
    have hp := pw_max O.h0 O.h1
    have hpo := pw_pos o
    have ho2 : o ≤ 10 := Int.le_trans ho' O.h1
    have hpo' := pw_max ho ho2
    simp only [L20_0, b20_0, F34_eq 2000 (by omega) s.1 O.h0 O.h1, Option.bind_some]
    unfold fnd
    by_cases c : st < pw s.1
    · have ew : IntKind.i64.wrap (st + pw o) = st + pw o := i64_in (by omega) (by omega)
      have hfit : fitsS s (st, o) = true := decide_eq_true ⟨ho, ho', h1, c, hm⟩
      have hff : freeF s (st, o) f t = freeS s (st, o) f t := by
        unfold freeF
        rw [hk, hfit, decide_eq_true hft.1, decide_eq_true hft.2]
        simp
      rw [if_pos (decide_eq_true c), if_pos c, F22_eq hf, Option.bind_some, hff]
      cases freeS s (st, o) f t with
      | true => rfl
      | false =>
        rw [if_neg Bool.false_ne_true, ew]
        exact L20_eq hf hk o f t ho ho' hft n (st + pw o) (by omega) (by omega) (mod_step hm) (by omega) (by omega)
    · rw [if_neg (by simpa using c), if_neg c]
theorem L20_bad {s : Sc} (hf : List.length s.2.1 ≤ 1200) (hk : okS s = true) (o f t : Int) (ho : 0 ≤ o) (ho' : o ≤ s.1) (hft : ¬ (0 ≤ f ∧ f < t)) : ∀ (n : Nat) (st : Int), 0 ≤ st → st ≤ 2048 → pw s.1 - st < n → 0 < n →
    L20_0 (F21 2000) (F34 2000) (F22 2000) 2000 s o f t n (pw o) st = some (0, false)
  | 0, st, h1, h2, h3, h4 => by omega
  | n + 1, st, h1, h2, h3, h4 => by
    have O := oks_of hk
    have hp := pw_max O.h0 O.h1
    have hpo := pw_pos o
    have ho2 : o ≤ 10 := Int.le_trans ho' O.h1
    have hpo' := pw_max ho ho2
    simp only [L20_0, b20_0, F34_eq 2000 (by omega) s.1 O.h0 O.h1, Option.bind_some]
    by_cases c : st < pw s.1
    · have ew : IntKind.i64.wrap (st + pw o) = st + pw o := i64_in (by omega) (by omega)
      have hff : freeF s (st, o) f t = false := by
        unfold freeF
        by_cases c1 : 0 ≤ f
        · rw [decide_eq_false (show ¬ f < t from fun h => hft ⟨c1, h⟩)]; simp
        · rw [decide_eq_false c1]; simp
      rw [if_pos (decide_eq_true c), F22_eq hf, Option.bind_some, hff, if_neg Bool.false_ne_true, ew]
      exact L20_bad hf hk o f t ho ho' hft n (st + pw o) (by omega) (by omega) (by omega) (by omega)
    · rw [if_neg (by simpa using c)]
theorem F20_eq {s : Sc} (hf : List.length s.2.1 ≤ 1200) (o f t : Int) : F20 2000 s o f t = some (atS s o f t) := by
  unfold F20 G20 t20 atS findS
  rw [F21_eq 2000 (by omega) s (by omega) (by omega), Option.bind_some, chk_ne]
  by_cases hk : okS s = true
  · have O := oks_of hk
    have hp := pw_max O.h0 O.h1
    have h1 := O.h1
    rw [hk, if_neg (by simp)]
    by_cases c1 : o < 0
    · rw [if_pos (decide_eq_true c1), if_neg (show ¬ (0 ≤ o ∧ o ≤ s.1) by omega)]
      split <;> rfl
    · rw [if_neg (by simpa using c1)]
      by_cases c2 : o > s.1
      · rw [if_pos (decide_eq_true c2), if_neg (show ¬ (0 ≤ o ∧ o ≤ s.1) from fun h => by have := h.2; simp only [El] at *; omega)]
        split <;> rfl
      · have c3 : o ≤ s.1 := by simp only [El] at *; omega
        rw [if_neg (by simpa using c2), if_pos (show 0 ≤ o ∧ o ≤ s.1 from ⟨by omega, c3⟩), F34_eq 2000 (by omega) o (by omega) (by simp only [El] at *; omega), Option.bind_some]
        by_cases hft : 0 ≤ f ∧ f < t
        · rw [if_pos ⟨rfl, hft⟩]
          exact L20_eq hf hk o f t (by omega) c3 hft 2000 0 (by omega) (by omega) (by simp) (by omega) (by omega)
        · rw [if_neg (fun h => hft h.2)]
          exact L20_bad hf hk o f t (by omega) c3 hft 2000 0 (by omega) (by omega) (by omega) (by omega)
  · rw [if_pos (by simpa using hk), if_neg (fun h => hk h.1)]

/-! ### the chapter's example -/
def insI (k : Int) : List Int → List Int
  | [] => [k]
  | x :: xs => if x ≤ k then x :: insI k xs else k :: x :: xs
def isrt (l : List Int) : List Int := l.foldl (fun a x => insI x a) []
theorem insI_perm (k : Int) : ∀ l : List Int, (insI k l).Perm (k :: l)
  | [] => .refl _
  | x :: xs => by
    unfold insI
    split
    · exact ((insI_perm k xs).cons x).trans (.swap k x xs)
    · exact .refl _
theorem insI_pair (k : Int) : ∀ l : List Int, l.Pairwise (· ≤ ·) → (insI k l).Pairwise (· ≤ ·)
  | [], _ => by simp [insI]
  | x :: xs, h => by
    rw [List.pairwise_cons] at h
    unfold insI
    split
    · rename_i c
      rw [List.pairwise_cons]
      refine ⟨fun a ha => ?_, insI_pair k xs h.2⟩
      rcases List.mem_cons.1 ((insI_perm k xs).mem_iff.1 ha) with rfl | ha
      · exact c
      · exact h.1 a ha
    · rename_i c
      rw [List.pairwise_cons]
      refine ⟨fun a ha => ?_, List.pairwise_cons.2 h⟩
      rcases List.mem_cons.1 ha with rfl | ha
      · omega
      · have := h.1 a ha; omega
theorem foldI_perm : ∀ (l a : List Int), (l.foldl (fun a x => insI x a) a).Perm (a ++ l)
  | [], a => by simp
  | x :: l, a => by
    refine (foldI_perm l (insI x a)).trans ?_
    refine ((insI_perm x a).append_right l).trans ?_
    exact List.perm_middle.symm
theorem foldI_pair : ∀ (l a : List Int), a.Pairwise (· ≤ ·) → (l.foldl (fun a x => insI x a) a).Pairwise (· ≤ ·)
  | [], a, h => h
  | x :: l, a, h => foldI_pair l _ (insI_pair x a h)
theorem isrt_perm (l : List Int) : (isrt l).Perm l := by simpa [isrt] using foldI_perm l []
theorem isrt_pair (l : List Int) : (isrt l).Pairwise (· ≤ ·) := foldI_pair l [] .nil
theorem srt_eq (l : List Int) : srt l = isrt l := by
  have h1 : (srt l).Pairwise (· ≤ ·) := by
    have := List.pairwise_mergeSort (le := fun x y : Int => decide (x ≤ y)) (fun a b c h1 h2 => by simp only [decide_eq_true_eq] at *; omega) (fun a b => by
      rcases Int.le_total a b with h | h
      · simp [h]
      · simp [h]) l
    simpa [srt] using this
  exact List.Perm.eq_of_pairwise (fun a b _ _ h1 h2 => Int.le_antisymm h1 h2) h1 (isrt_pair l) ((List.mergeSort_perm l _).trans (isrt_perm l).symm)
def F45i (K : Nat) (x : Unit) (l : List Int) : Option (List Int) := if l.length < 4611686018427387904 then some (isrt l) else none
theorem F45_fun : F45 = F45i := by
  funext K x l
  unfold F45 F45i
  rw [srt_eq]
theorem known_eq : F11 2000 = some true := by
  unfold F11 F26 F24 F27 F1037 F2037 F3037 F30
  rw [F45_fun]
  kernel_rfl
theorem F9_eq (K : Nat) (s : Sc) (l : List (El T38)) : ∃ b, F9 K s l = some b ∧ (b = false → List.length s.2.1 ≤ 1100 ∧ List.length s.2.2 ≤ 500 ∧ l.length ≤ 500) := by
  unfold F9 G9 t9
  simp only [decide_eq_true_eq]
  (repeat' split) <;> refine ⟨_, rfl, fun h => ?_⟩ <;> first | (cases h; done) | (refine ⟨?_, ?_, ?_⟩ <;> omega)
theorem by3 : Try.prog.types[(3 : Nat)].bytes ≤ 100 := by decide +kernel
theorem by47 : Try.prog.types[(47 : Nat)].bytes ≤ 100 := by decide +kernel
theorem F13_eq (K : Nat) (s : Sc) (h1 : List.length s.2.1 ≤ 100000) (h2 : List.length s.2.2 ≤ 100000) : F13 K s = some s := by
  have := Nat.mul_le_mul h1 by3
  have := Nat.mul_le_mul h2 by47
  unfold F13 G13 t13
  rw [if_pos (decide_eq_true (by omega)), if_pos (decide_eq_true (by omega))]
theorem L23_1_eq (K : Nat) (s : Sc) (hf : List.length s.2.1 ≤ 100000) : ∀ (n : Nat) (pre suf : List Int), s.2.1 = pre ++ suf → suf.length < n → L23_1 K s s n (pre.length : Int) = some true
  | 0, pre, suf, e, h => by omega
  | n + 1, pre, [], e, h => by
    have := fin (l := s.2.1) e
    simp only [L23_1, b23_1, this.1, Bool.false_eq_true, if_false, beq_self_eq_true]
  | n + 1, pre, x :: xs, e, h => by
    obtain ⟨g1, g2, g3, g4, g5, g6⟩ := mid (l := s.2.1) e (zEl (Ty.int IntKind.i64)) (by omega)
    simp only [L23_1, b23_1, g1, g2, g3, g4, if_true, bne_self_eq_false, Bool.false_eq_true, if_false]
    exact L23_1_eq K s hf n (pre ++ [x]) xs g5 (by simpa using h)
theorem L23_0_eq (K : Nat) (s : Sc) (hf : List.length s.2.1 ≤ 100000) (hK : List.length s.2.1 < K) (hl : List.length s.2.2 ≤ 100000) : ∀ (n : Nat) (pre suf : List Hd), s.2.2 = pre ++ suf → suf.length < n → L23_0 K s s n (pre.length : Int) = some true
  | 0, pre, suf, e, h => by omega
  | n + 1, pre, [], e, h => by
    have := fin (l := s.2.2) e
    simp only [L23_0, b23_0, this.1, Bool.false_eq_true, if_false]
    exact L23_1_eq K s hf K [] s.2.1 rfl hK
  | n + 1, pre, x :: xs, e, h => by
    obtain ⟨g1, g2, g3, g4, g5, g6⟩ := mid (l := s.2.2) e (zEl T47) (by omega)
    simp only [L23_0, b23_0, g1, g2, g3, g4, if_true, beq_self_eq_true, Bool.and_self, Bool.not_true, Bool.false_eq_true, if_false]
    exact L23_0_eq K s hf hK hl n (pre ++ [x]) xs g5 (by simpa using h)
theorem F23_eq (K : Nat) (s : Sc) (hf : List.length s.2.1 ≤ 100000) (hK : List.length s.2.1 < K) (hl : List.length s.2.2 ≤ 100000) (hK' : List.length s.2.2 < K) : F23 K s s = some true :=
  L23_0_eq K s hf hK hl K [] s.2.2 rfl hK'
theorem backfillScenes (s : Sc) (b : Bk) (f t : Int) (_ : Gd T25 s) (_ : Gd T42 b) (_ : (Lit.int .i64 f).wf = true) (_ : (Lit.int .i64 t).wf = true) : F5 2000 s b f t = some true := by
  unfold F5 G5 t5
  obtain ⟨m, hm, hm'⟩ := F9_eq 2000 s []
  rw [hm, Option.bind_some]
  cases m with
  | true => rw [if_pos rfl, known_eq]; rfl
  | false =>
    obtain ⟨a1, a2, _⟩ := hm' rfl
    rw [if_neg Bool.false_ne_true, F13_eq 2000 s (by omega) (by omega), Option.bind_some, F18_eq 2000 (by omega) s (by omega) (by omega), Option.bind_some, F15_eq (by omega), Option.bind_some,
      F19_eq (by omega), Option.bind_some, F20_eq (by omega), Option.bind_some, F21_eq 2000 (by omega) s (by omega) (by omega), Option.bind_some, if_pos (by simp), F22_eq (by omega), Option.bind_some,
      if_pos (by simp), if_pos (by simp), if_pos (by simp), F23_eq 2000 s (by omega) (by omega) (by omega) (by omega), Option.bind_some, if_pos rfl, known_eq]
    rfl
end Go.Proofs.YtipfamkhplkpmaaE
