/- Rank: whether a row is in order, by both roads; the document's sort and the library's are one. -/
import Derived.Test.YtcnfilanbmkpaaaP03A
set_option linter.all false
namespace Go.Proofs.YtcnfilanbmkpaaaE
open Go Go.Proofs
set_option maxRecDepth 100000
set_option linter.unusedVariables false
theorem decSucc {i : Nat} (h : i ≤ 100000) : IntKind.i64.wrap (((i + 1 : Nat) : Int) - 1) = (i : Int) := by rw [i64_in (by omega) (by omega)]; omega

/-! ### in order? -/
abbrev zK : Key := zEl T35
def bad (l : List Key) : Prop := ∃ j, 0 < j ∧ j < l.length ∧ less (l.getD (j - 1) zK) (l.getD j zK) = false
def badB (l : List Key) : Prop := ∃ j, 0 < j ∧ j < l.length ∧ less (l.getD j zK) (l.getD (j - 1) zK) = true
open Classical in
theorem L33_eq (K : Nat) (hK : 4 ≤ K) (l : List Key) (hl : l.length ≤ 100000) : ∀ (n i : Nat), i < n → (i = 0 ∨ i < l.length) →
    L33_0 (F34 K) K l () n (i : Int) = some (decide ¬ ∃ j, 0 < j ∧ j ≤ i ∧ less (l.getD j zK) (l.getD (j - 1) zK) = true)
  | 0, i, h, _ => by omega
  | n + 1, 0, h, _ => by
    have : decide (((0 : Nat) : Int) > 0) = false := by decide
    simp only [L33_0, b33_0, this, Bool.false_eq_true, if_false]
    congr 1
    symm
    refine decide_eq_true ?_
    rintro ⟨j, h1, h2, _⟩
    omega
  | n + 1, i + 1, h, hi => by
    have hi : i + 1 < l.length := by omega
    have d1 : decide (((i + 1 : Nat) : Int) > 0) = true := decide_eq_true (by omega)
    have d2 : decide ((0 : Int) ≤ ((i + 1 : Nat) : Int) ∧ ((i + 1 : Nat) : Int) < (l.length : Int)) = true := decide_eq_true (by omega)
    have d3 : decide ((0 : Int) ≤ (i : Int) ∧ (i : Int) < (l.length : Int)) = true := decide_eq_true (by omega)
    simp only [L33_0, b33_0, d1, d2, d3, decSucc (show i ≤ 100000 by omega), if_true, Int.toNat_natCast, F34_eq K hK, Option.bind_some, cmpK_less,
      L33_eq K hK l hl n i (by omega) (by omega)]
    cases c : less (l.getD (i + 1) zK) (l.getD i zK) with
    | true =>
      rw [if_pos rfl]
      congr 1
      symm
      refine decide_eq_false fun h => h ⟨i + 1, by omega, by omega, ?_⟩
      exact c
    | false =>
      rw [if_neg Bool.false_ne_true]
      congr 1
      refine decide_eq_decide.2 (not_congr ⟨?_, ?_⟩)
      · rintro ⟨j, h1, h2, h3⟩
        exact ⟨j, h1, by omega, h3⟩
      · rintro ⟨j, h1, h2, h3⟩
        by_cases e : j = i + 1
        · subst e
          rw [show i + 1 - 1 = i from rfl, c] at h3
          cases h3
        · exact ⟨j, h1, by omega, h3⟩
open Classical in
theorem F33_eq (K : Nat) (hK : 4 ≤ K) (l : List Key) (hl : l.length ≤ 100000) (hl' : l.length < K) : F33 K l () = some (decide ¬ badB l) := by
  have hb : ∀ i, l.length = i + 1 → ((∃ j, 0 < j ∧ j ≤ i ∧ less (l.getD j zK) (l.getD (j - 1) zK) = true) ↔ badB l) := by
    intro i e
    constructor
    · rintro ⟨j, h1, h2, h3⟩; exact ⟨j, h1, by omega, h3⟩
    · rintro ⟨j, h1, h2, h3⟩; exact ⟨j, h1, by omega, h3⟩
  show L33_0 (F34 K) K l () K (IntKind.i64.wrap ((l.length : Int) - 1)) = _
  cases e : l.length with
  | zero =>
    obtain ⟨n, rfl⟩ : ∃ n, K = n + 1 := ⟨K - 1, by omega⟩
    have : IntKind.i64.wrap (((0 : Nat) : Int) - 1) = -1 := by rw [i64_in] <;> omega
    simp only [this, L33_0, b33_0]
    rw [if_neg (by decide)]
    congr 1
    symm
    refine decide_eq_true ?_
    rintro ⟨j, h1, h2, _⟩
    omega
  | succ i =>
    rw [decSucc (by omega), L33_eq K hK l hl K i (by omega) (by omega)]
    congr 1
    exact decide_eq_decide.2 (not_congr (hb i e))
open Classical in
theorem L16_eq (K : Nat) (l : List Key) (hl : l.length ≤ 100000) : ∀ (n i : Nat), l.length + 1 < n + i → i ≤ l.length + 1 → 0 < i →
    L16_0 (F37 K) (F19 K) K l n (i : Int) = some (if (∃ j, i ≤ j ∧ j < l.length ∧ less (l.getD (j - 1) zK) (l.getD j zK) = false) then 2 else 0)
  | 0, i, h, _, _ => by
    omega
  | n + 1, 0, h, _, h0 => by omega
  | n + 1, i + 1, h, _, h0 => by
    by_cases c : i + 1 < l.length
    · have d1 : decide (((i + 1 : Nat) : Int) < (l.length : Int)) = true := decide_eq_true (by omega)
      have d2 : decide ((0 : Int) ≤ ((i + 1 : Nat) : Int) ∧ ((i + 1 : Nat) : Int) < (l.length : Int)) = true := decide_eq_true (by omega)
      have d3 : decide ((0 : Int) ≤ (i : Int) ∧ (i : Int) < (l.length : Int)) = true := decide_eq_true (by omega)
      have e1 : IntKind.i64.wrap (((i + 1 : Nat) : Int) + 1) = ((i + 1 + 1 : Nat) : Int) := by rw [i64_in (by omega) (by omega)]; omega
      simp only [L16_0, b16_0, d1, d2, d3, decSucc (show i ≤ 100000 by omega), e1, if_true, Int.toNat_natCast, F19_eq, Option.bind_some,
        L16_eq K l hl n (i + 1 + 1) (by omega) (by omega) (by omega)]
      cases c2 : less (l.getD i zK) (l.getD (i + 1) zK) with
      | false =>
        rw [Bool.not_false, if_pos rfl, if_pos]
        exact ⟨i + 1, Nat.le_refl _, c, c2⟩
      | true =>
        rw [Bool.not_true, if_neg Bool.false_ne_true]
        congr 1
        by_cases c3 : ∃ j, i + 1 + 1 ≤ j ∧ j < l.length ∧ less (l.getD (j - 1) zK) (l.getD j zK) = false
        · rw [if_pos c3, if_pos]
          obtain ⟨j, h1, h2, h3⟩ := c3
          exact ⟨j, by omega, h2, h3⟩
        · rw [if_neg c3, if_neg]
          rintro ⟨j, h1, h2, h3⟩
          by_cases e : j = i + 1
          · subst e
            rw [show i + 1 - 1 = i from rfl, c2] at h3
            cases h3
          · exact c3 ⟨j, by omega, h2, h3⟩
    · have d1 : decide (((i + 1 : Nat) : Int) < (l.length : Int)) = false := decide_eq_false (by omega)
      simp only [L16_0, b16_0, d1, Bool.false_eq_true, if_false]
      rw [if_neg]
      rintro ⟨j, h1, h2, h3⟩
      omega
theorem less_asymm {a b : Key} (h : less a b = true) : less b a = false := by
  cases c : less b a with
  | false => rfl
  | true => exact (less_irrefl a).symm.trans (less_trans h c) |> fun h => absurd h Bool.false_ne_true
theorem bad_iff {l : List Key} (hu : uniq l = true) : bad l ↔ badB l := by
  have hd : (ids l).Nodup := of_decide_eq_true hu
  constructor
  · rintro ⟨j, h1, h2, h3⟩
    refine ⟨j, h1, h2, ?_⟩
    cases c : less (l.getD j zK) (l.getD (j - 1) zK) with
    | true => rfl
    | false =>
      exfalso
      have e := less_total h3 c
      rw [getD_lt (by omega), getD_lt h2] at e
      have := (List.nodup_iff_pairwise_ne.1 hd)
      rw [List.pairwise_iff_getElem] at this
      refine this (j - 1) j (by simp [ids]; omega) (by simpa [ids] using h2) (by omega) ?_
      simp [ids, e]
  · rintro ⟨j, h1, h2, h3⟩
    exact ⟨j, h1, h2, less_asymm h3⟩
open Classical in
noncomputable def chk (l : List Key) : Int := if uniq l = true then (if bad l then 2 else 0) else 30
open Classical in
theorem F16_eq (K : Nat) (l : List Key) (hl : l.length ≤ 100000) (hl' : l.length + 1 < K) : F16 K l = some (chk l) := by
  show Option.bind (F37 K l) _ = _
  rw [F37_eq K l (by omega) hl, Option.bind_some]
  unfold chk
  cases hu : uniq l with
  | false => rfl
  | true =>
    have := L16_eq K l hl K 1 (by omega) (by omega) (by omega)
    simp only [Bool.not_true, Bool.false_eq_true, if_false, if_true]
    refine this.trans ?_
    congr 1
theorem F35_eq (K : Nat) (l : List Key) (hl : l.length ≤ 100000) : F35 K l = some l := by
  simp only [F35, G35, t35, Nat.zero_add, fits hl, if_true]
  by_cases c : l.length = 0
  · rw [if_pos c, List.length_eq_zero_iff.1 c]
    exact both_same _
  · rw [if_neg c]
theorem F12_eq (K : Nat) (l : List Key) (hl : l.length ≤ 100000) : F12 K l = some l := by
  simp only [F12, G12, t12, fits hl, if_true]
/-! ### the document's sort -/
def ins (k : Key) : List Key → List Key
  | [] => [k]
  | x :: xs => if less x k then x :: ins k xs else k :: x :: xs
def isort (l : List Key) : List Key := l.foldl (fun a x => ins x a) []
theorem ins_len (k : Key) : ∀ l : List Key, (ins k l).length = l.length + 1
  | [] => rfl
  | x :: xs => by
    unfold ins
    split
    · simp [ins_len k xs]
    · rfl
theorem foldl_len : ∀ (l a : List Key), (l.foldl (fun a x => ins x a) a).length = a.length + l.length
  | [], a => rfl
  | x :: l, a => by
    have h1 := foldl_len l (ins x a)
    have h2 := ins_len x a
    simp only [List.foldl_cons, List.length_cons]
    omega
theorem L38_eq (K : Nat) (l : List Key) (k : Key) (hl : l.length ≤ 50000) : ∀ (n : Nat) (pre suf acc : List Key), l = pre ++ suf → suf.length < n → acc.length = pre.length →
    L38_0 (F19 K) K l k n (pre.length : Int) acc = some (acc ++ ins k suf)
  | 0, pre, suf, acc, e, h, ha => by omega
  | n + 1, pre, [], acc, e, h, ha => by
    have := fin e
    obtain ⟨f1, f2⟩ := this
    subst f2
    have d2 : decide ((0 : Int) ≤ (pre.length : Int) ∧ (pre.length : Int) ≤ (pre.length : Int) ∧ (pre.length : Int) ≤ (pre.length : Int)) = true := decide_eq_true (by omega)
    simp only [L38_0, b38_0, f1, d2, Bool.false_eq_true, if_false, if_true, Int.toNat_natCast, List.take_length, List.drop_length, ins]
    rw [if_pos (fits (by simp; omega)), if_pos (fits (by simp; omega))]
    simp
  | n + 1, pre, x :: xs, acc, e, h, ha => by
    obtain ⟨h1, h2, h3, h4, h5, h6⟩ := mid e (zEl T35) (by omega)
    have hle : l.length = pre.length + (xs.length + 1) := by rw [e]; simp
    have d2 : decide ((0 : Int) ≤ (pre.length : Int) ∧ (pre.length : Int) ≤ (l.length : Int) ∧ (l.length : Int) ≤ (l.length : Int)) = true := decide_eq_true (by omega)
    have hdrop : List.drop pre.length l = x :: xs := by rw [e]; simp
    simp only [L38_0, b38_0, h1, h2, h3, h4, d2, if_true, F19_eq, Option.bind_some, ins]
    cases c : less x k with
    | true =>
      rw [if_pos rfl, if_pos (fits (by simp; omega)), L38_eq K l k hl n (pre ++ [x]) xs (acc ++ [x]) h5 (by simpa using h) (by simp [ha])]
      simp
    | false =>
      rw [if_neg Bool.false_ne_true, if_pos (fits (by simp; omega))]
      simp only [Int.toNat_natCast, List.take_length, hdrop]
      rw [if_pos (fits (by simp; omega))]
      simp
theorem F38_eq (K : Nat) (l : List Key) (k : Key) (hl : l.length ≤ 50000) (hK : l.length < K) : F38 K l k = some (ins k l) :=
  L38_eq K l k hl K [] l [] rfl hK rfl
theorem L15_eq (K : Nat) (l : List Key) (hl : l.length ≤ 50000) (hK : l.length < K) : ∀ (n : Nat) (pre suf acc : List Key), l = pre ++ suf → suf.length < n → acc.length = pre.length →
    L15_0 (F37 K) (F38 K) K l n (pre.length : Int) acc = some (suf.foldl (fun a x => ins x a) acc, 0)
  | 0, pre, suf, acc, e, h, ha => by omega
  | n + 1, pre, [], acc, e, h, ha => by
    have := fin e
    simp only [L15_0, b15_0, this.1]
    rfl
  | n + 1, pre, x :: xs, acc, e, h, ha => by
    obtain ⟨h1, h2, h3, h4, h5, h6⟩ := mid e (zEl T35) (by omega)
    have hle : l.length = pre.length + (xs.length + 1) := by rw [e]; simp
    simp only [L15_0, b15_0, h1, h2, h3, h4, if_true, F38_eq K acc x (by omega) (by omega), Option.bind_some, List.foldl_cons]
    exact L15_eq K l hl hK n (pre ++ [x]) xs _ h5 (by simpa using h) (by rw [ins_len, ha]; simp)
def sorted (l : List Key) : List Key × Int := if uniq l = true then (isort l, 0) else ([], 30)
theorem F15_eq (K : Nat) (l : List Key) (hl : l.length ≤ 50000) (hK : l.length < K) : F15 K l = some (sorted l) := by
  show Option.bind (F37 K l) _ = _
  rw [F37_eq K l hK (by omega), Option.bind_some]
  unfold sorted
  cases hu : uniq l with
  | false => rfl
  | true =>
    simp only [Bool.not_true, Bool.false_eq_true, if_false, if_true]
    exact L15_eq K l hl hK K [] l [] rfl hK rfl

/-! ### the two sorts are one -/
def le (a b : Key) : Bool := !less b a
theorem le_trans' (a b c : Key) (h1 : le a b = true) (h2 : le b c = true) : le a c = true := by
  simp only [le, Bool.not_eq_true'] at *
  cases h : less c a with
  | false => rfl
  | true =>
    exfalso
    rw [less_iff] at h
    have e1 : ¬ _ := fun h => Bool.false_ne_true (h1.symm.trans ((less_iff b a).2 h))
    have e2 : ¬ _ := fun h => Bool.false_ne_true (h2.symm.trans ((less_iff c b).2 h))
    simp only [El] at *
    omega
theorem le_total' (a b : Key) : (le a b || le b a) = true := by
  simp only [le]
  cases h : less b a with
  | false => rfl
  | true => rw [less_asymm h]; rfl
theorem ins_perm (k : Key) : ∀ l : List Key, (ins k l).Perm (k :: l)
  | [] => .refl _
  | x :: xs => by
    unfold ins
    split
    · exact ((ins_perm k xs).cons x).trans (.swap k x xs)
    · exact .refl _
theorem ins_pair (k : Key) : ∀ l : List Key, l.Pairwise (fun a b => le a b = true) → (ins k l).Pairwise (fun a b => le a b = true)
  | [], _ => by simp [ins]
  | x :: xs, h => by
    rw [List.pairwise_cons] at h
    unfold ins
    split
    · rename_i c
      rw [List.pairwise_cons]
      refine ⟨fun a ha => ?_, ins_pair k xs h.2⟩
      rcases List.mem_cons.1 ((ins_perm k xs).mem_iff.1 ha) with rfl | ha
      · simp [le, less_asymm c]
      · exact h.1 a ha
    · rename_i c
      have c' : le k x = true := by simp [le, c]
      rw [List.pairwise_cons]
      refine ⟨fun a ha => ?_, List.pairwise_cons.2 h⟩
      rcases List.mem_cons.1 ha with rfl | ha
      · exact c'
      · exact le_trans' _ _ _ c' (h.1 a ha)
theorem foldl_perm : ∀ (l a : List Key), (l.foldl (fun a x => ins x a) a).Perm (a ++ l)
  | [], a => by simp
  | x :: l, a => by
    refine (foldl_perm l (ins x a)).trans ?_
    refine ((ins_perm x a).append_right l).trans ?_
    exact List.perm_middle.symm
theorem foldl_pair : ∀ (l a : List Key), a.Pairwise (fun a b => le a b = true) → (l.foldl (fun a x => ins x a) a).Pairwise (fun a b => le a b = true)
  | [], a, h => h
  | x :: l, a, h => foldl_pair l _ (ins_pair x a h)
theorem isort_perm (l : List Key) : (isort l).Perm l := by simpa [isort] using foldl_perm l []
theorem isort_pair (l : List Key) : (isort l).Pairwise (fun a b => le a b = true) := foldl_pair l [] .nil
theorem le_anti (a b : Key) (h1 : le a b = true) (h2 : le b a = true) : a = b := by
  simp only [le, Bool.not_eq_true'] at *
  exact less_total h2 h1
/-- Rows with one stock, both in order, are one. -/
theorem one_row {l m : List Key} (hl : l.Pairwise (fun a b => le a b = true)) (hm : m.Pairwise (fun a b => le a b = true)) (h : l.Perm m) : l = m :=
  List.Perm.eq_of_pairwise (fun a b _ _ h1 h2 => le_anti a b h1 h2) hl hm h
theorem merge_eq (l : List Key) : l.mergeSort le = isort l :=
  one_row (List.pairwise_mergeSort le_trans' le_total' l) (isort_pair l) ((List.mergeSort_perm l le).trans (isort_perm l).symm)
theorem isort_len (l : List Key) : (isort l).length = l.length := (isort_perm l).length_eq

/-! ### are two rows one? -/
theorem key_beq (a b : Key) : (a.1 == b.1 && (a.2.1 == b.2.1 && a.2.2 == b.2.2)) = decide (a = b) := by
  rw [Bool.eq_iff_iff]
  simp only [Bool.and_eq_true, beq_iff_eq, decide_eq_true_eq]
  exact ⟨fun h => key_ext h.1 h.2.1 h.2.2, fun h => h ▸ ⟨rfl, rfl, rfl⟩⟩
theorem L17_eq (K : Nat) (l m : List Key) (hl : l.length ≤ 100000) : ∀ (n : Nat) (pre s t : List Key), l = pre ++ s → m = pre ++ t → s.length = t.length → s.length < n →
    L17_0 K l m n (pre.length : Int) = some (decide (s = t))
  | 0, pre, s, t, e, e', hs, h => by omega
  | n + 1, pre, [], t, e, e', hs, h => by
    have := fin e
    have ht : t = [] := List.length_eq_zero_iff.1 hs.symm
    simp only [L17_0, b17_0, this.1, ht]
    rfl
  | n + 1, pre, x :: xs, [], e, e', hs, h => by cases hs
  | n + 1, pre, x :: xs, y :: ys, e, e', hs, h => by
    have hll : l.length = m.length := by rw [e, e', List.length_append, List.length_append, hs]
    obtain ⟨h1, h2, h3, h4, h5, h6⟩ := mid e (zEl T35) (by omega)
    obtain ⟨g1, g2, g3, g4, g5, g6⟩ := mid e' (zEl T35) (by omega)
    simp only [L17_0, b17_0, h1, h2, h3, h4, g2, g3, if_true]
    by_cases c : x = y
    · subst c
      simp only [beq_self_eq_true, Bool.and_self, Bool.not_true, Bool.false_eq_true, if_false]
      rw [L17_eq K l m hl n (pre ++ [x]) xs ys h5 g5 (by simpa using hs) (by simpa using h)]
      simp
    · have : (x.1 == y.1 && (x.2.1 == y.2.1 && x.2.2 == y.2.2)) = false := (key_beq x y).trans (decide_eq_false c)
      rw [this]
      simp [c]
theorem F17_eq (K : Nat) (l m : List Key) (hl : l.length ≤ 100000) (hK : l.length < K) : F17 K l m = some (decide (l = m)) := by
  show (if ((l.length : Int) != (m.length : Int)) = true then some false else L17_0 K l m K 0) = _
  by_cases c : l.length = m.length
  · have : ((l.length : Int) != (m.length : Int)) = false := by simp [c]
    rw [this, if_neg Bool.false_ne_true]
    exact L17_eq K l m hl K [] l m rfl rfl c hK
  · have : ((l.length : Int) != (m.length : Int)) = true := by simp; omega
    rw [this, if_pos rfl]
    congr 1
    symm
    exact decide_eq_false fun h => c (h ▸ rfl)
theorem F10_eq (K : Nat) (l m : List Key) : F10 K l m = some (decide (l.length > 300) || decide (m.length > 300)) := by
  simp only [F10, G10, t10]
  by_cases c : l.length > 300
  · have : ((l.length : Int) > 300) := by omega
    simp [c, this]
  · have : ¬ ((l.length : Int) > 300) := by omega
    have h2 : ((m.length : Int) > 300) ↔ m.length > 300 := by omega
    simp [c, this, h2]
end Go.Proofs.YtcnfilanbmkpaaaE
