/- The library's sort of numbers: what comes out is what went in, in another order: the insertion sort. -/
import Derived.Test.YtlpalhgiiodjoaaP16S
import Derived.Test.YtlpalhgiiodjoaaS16F7
set_option linter.all false
namespace Go.Proofs.YtlpalhgiiodjoaaE
open Go Go.Proofs
set_option maxRecDepth 100000
set_option linter.unusedVariables false
theorem F64_eq (K : Nat) (x y : Int) : F64 K x y = some (decide (x < y)) := by
  unfold F64 G64 t64
  have : F76 K x = some false := by unfold F76 G76 t76; simp
  simp [this]
abbrev z32 : Int := zEl (Ty.int IntKind.u32)
theorem L58_1_eq (K : Nat) (a a1 : Int) (ha : 0 ≤ a) (o0 : List Int) (r0 : Int → List Int → Option (Unit × List Int)) (i : Int) : ∀ (n : Nat) (j : Nat) (l : List Int), j < n → j < l.length → l.length ≤ 2000 →
    ∃ l' : List Int, l'.Perm l ∧ L58_1 (F64 K) K a a1 o0 r0 n i (j : Int) l = r0 (IntKind.i64.wrap (i + (1 : Int))) l'
  | 0, j, l, h, _, _ => by omega
  | n + 1, j, l, h, hj, hl => by
    by_cases c : (j : Int) > a
    · have c0 : decide ((j : Int) > a) = true := decide_eq_true c
      have c1 : decide ((0 : Int) ≤ (j : Int) ∧ (j : Int) < (l.length : Int)) = true := decide_eq_true (by omega)
      have w : IntKind.i64.wrap ((j : Int) - (1 : Int)) = ((j - 1 : Nat) : Int) := by rw [i64_in] <;> omega
      have c2 : decide ((0 : Int) ≤ ((j - 1 : Nat) : Int) ∧ ((j - 1 : Nat) : Int) < (l.length : Int)) = true := decide_eq_true (by omega)
      have c3 : decide ((0 : Int) ≤ ((j - 1 : Nat) : Int) ∧ ((j - 1 : Nat) : Int) < ((l.set ((j : Int)).toNat (l.getD (((j - 1 : Nat) : Int)).toNat z32)).length : Int)) = true := decide_eq_true (by rw [List.length_set]; omega)
      simp only [L58_1, b58_1, c0, c1, w, c2, c3, if_true, F64_eq, Option.bind_some]
      by_cases d : l.getD ((j : Int)).toNat z32 < l.getD (((j - 1 : Nat) : Int)).toNat z32
      · rw [decide_eq_true d, if_pos rfl]
        have ih := L58_1_eq K a a1 ha o0 r0 i n (j - 1) (swp l j (j - 1)) (by omega) (by rw [swp_len]; omega) (by rw [swp_len]; exact hl)
        obtain ⟨l', p, e⟩ := ih
        exact ⟨l', p.trans (swp_perm hj (by omega)), e⟩
      · rw [decide_eq_false d, if_neg (by decide)]
        exact ⟨l, List.Perm.refl _, rfl⟩
    · have c0 : decide ((j : Int) > a) = false := decide_eq_false c
      simp only [L58_1, b58_1, c0, Bool.false_eq_true, if_false]
      exact ⟨l, List.Perm.refl _, rfl⟩
theorem L58_0_eq (K : Nat) (hK : 2001 ≤ K) (a b : Int) (ha : 0 ≤ a) (o0 : List Int) : ∀ (n : Nat) (i : Nat) (l : List Int), (b - i).toNat < n → b ≤ l.length → l.length ≤ 2000 →
    ∃ l' : List Int, l'.Perm l ∧ L58_0 (F64 K) K a b o0 n (i : Int) l = some ((), l')
  | 0, i, l, h, _, _ => by omega
  | n + 1, i, l, h, hb, hl => by
    by_cases c : (i : Int) < b
    · have c0 : decide ((i : Int) < b) = true := decide_eq_true c
      obtain ⟨l1, p1, e1⟩ := L58_1_eq K a b ha o0 (L58_0 (F64 K) K a b o0 n) i K i l (by omega) (by omega) hl
      have w : IntKind.i64.wrap ((i : Int) + (1 : Int)) = ((i + 1 : Nat) : Int) := by rw [i64_in] <;> omega
      have hl1 := p1.length_eq
      obtain ⟨l2, p2, e2⟩ := L58_0_eq K hK a b ha o0 n (i + 1) l1 (by omega) (by omega) (by omega)
      refine ⟨l2, p2.trans p1, ?_⟩
      simp only [L58_0, b58_0, c0, if_true]
      rw [e1, w, e2]
    · have c0 : decide ((i : Int) < b) = false := decide_eq_false c
      simp only [L58_0, b58_0, c0, Bool.false_eq_true, if_false]
      exact ⟨l, List.Perm.refl _, rfl⟩
theorem F58_eq (K : Nat) (hK : 2001 ≤ K) (a b : Int) (ha : 0 ≤ a) (l : List Int) (h : a ≤ 2000) (hb : b ≤ l.length) (hl : l.length ≤ 2000) :
    ∃ l' : List Int, l'.Perm l ∧ F58 K a b l = some ((), l') := by
  unfold F58 G58 t58
  have w : IntKind.i64.wrap (a + (1 : Int)) = ((a + 1).toNat : Int) := by rw [i64_in] <;> omega
  rw [w]
  exact L58_0_eq K hK a b ha l K _ l (by omega) hb hl

/-! the partition -/
section
variable (K : Nat) (hK : 2010 ≤ K) (a b p : Int) (ha : 0 ≤ a) (o0 : List Int)
include hK ha
theorem L66_4_eq (r2 : Int → Int → List Int → Option ((Int × Bool) × List Int)) : ∀ (n : Nat) (i j : Int) (l : List Int), (j - i + 1).toNat < n → a < i → a ≤ j → j < l.length → l.length ≤ 2000 →
    (∃ (m : Int) (l' : List Int), a ≤ m ∧ m ≤ j ∧ l'.Perm l ∧ L66_4 (F64 K) K a b p o0 r2 n i j l = some ((m, false), l')) ∨
    (∃ (j' : Int) (l' : List Int), i ≤ j' ∧ j' ≤ j ∧ l'.Perm l ∧ L66_4 (F64 K) K a b p o0 r2 n i j l = r2 (i + 1) (j' - 1) l')
  | 0, i, j, l, h, _, _, _, _ => by omega
  | n + 1, i, j, l, h, hi, hj, hl, hl2 => by
    have ca : decide ((0 : Int) ≤ a ∧ a < (l.length : Int)) = true := decide_eq_true (by omega)
    have cj : decide ((0 : Int) ≤ j ∧ j < (l.length : Int)) = true := decide_eq_true (by omega)
    by_cases c : i ≤ j
    · have c0 : decide (i ≤ j) = true := decide_eq_true c
      have c1 : decide (i > j) = false := decide_eq_false (by omega)
      have ci : decide ((0 : Int) ≤ i ∧ i < (l.length : Int)) = true := decide_eq_true (by omega)
      have w1 : IntKind.i64.wrap (j - (1 : Int)) = j - 1 := i64_in (by omega) (by omega)
      have w2 : IntKind.i64.wrap (i + (1 : Int)) = i + 1 := i64_in (by omega) (by omega)
      simp only [L66_4, b66_4, c0, c1, ca, cj, ci, w1, w2, if_true, F64_eq, Option.bind_some, List.length_set, Bool.false_eq_true, if_false]
      by_cases d : l.getD j.toNat z32 < l.getD a.toNat z32
      · rw [decide_eq_true d]
        exact .inr ⟨j, swp l i.toNat j.toNat, c, Int.le_refl _, swp_perm (by omega) (by omega), rfl⟩
      · rw [decide_eq_false d]
        rcases L66_4_eq r2 n i (j - 1) l (by omega) hi (by omega) (by omega) hl2 with ⟨m, l', h1, h2, h3, h4⟩ | ⟨j', l', h1, h2, h3, h4⟩
        · exact .inl ⟨m, l', h1, by omega, h3, h4⟩
        · exact .inr ⟨j', l', h1, by omega, h3, h4⟩
    · have c0 : decide (i ≤ j) = false := decide_eq_false c
      have c1 : decide (i > j) = true := decide_eq_true (by omega)
      simp only [L66_4, b66_4, c0, c1, ca, cj, if_true, List.length_set, Bool.false_eq_true, if_false]
      exact .inl ⟨j, swp l j.toNat a.toNat, hj, Int.le_refl _, swp_perm (by omega) (by omega), rfl⟩
theorem L66_3_eq (r2 : Int → Int → List Int → Option ((Int × Bool) × List Int)) : ∀ (n : Nat) (i j : Int) (l : List Int), (j - i + 1).toNat < n → a < i → a ≤ j → j < l.length → l.length ≤ 2000 →
    (∃ (m : Int) (l' : List Int), a ≤ m ∧ m ≤ j ∧ l'.Perm l ∧ L66_3 (F64 K) K a b p o0 r2 n i j l = some ((m, false), l')) ∨
    (∃ (i' j' : Int) (l' : List Int), i ≤ i' ∧ i' ≤ j' ∧ j' ≤ j ∧ l'.Perm l ∧ L66_3 (F64 K) K a b p o0 r2 n i j l = r2 (i' + 1) (j' - 1) l')
  | 0, i, j, l, h, _, _, _, _ => by omega
  | n + 1, i, j, l, h, hi, hj, hl, hl2 => by
    have ca : decide ((0 : Int) ≤ a ∧ a < (l.length : Int)) = true := decide_eq_true (by omega)
    have out : (∃ (m : Int) (l' : List Int), a ≤ m ∧ m ≤ j ∧ l'.Perm l ∧ L66_4 (F64 K) K a b p o0 r2 K i j l = some ((m, false), l')) ∨
        (∃ (i' j' : Int) (l' : List Int), i ≤ i' ∧ i' ≤ j' ∧ j' ≤ j ∧ l'.Perm l ∧ L66_4 (F64 K) K a b p o0 r2 K i j l = r2 (i' + 1) (j' - 1) l') := by
      by_cases c : i ≤ j + 1
      · rcases L66_4_eq K hK a b p ha o0 r2 K i j l (by omega) hi hj hl hl2 with h | ⟨j', l', h1, h2, h3, h4⟩
        · exact .inl h
        · exact .inr ⟨i, j', l', Int.le_refl _, h1, h2, h3, h4⟩
      · rcases L66_4_eq K hK a b p ha o0 r2 K i j l (by omega) hi hj hl hl2 with h | ⟨j', l', h1, h2, h3, h4⟩
        · exact .inl h
        · exact .inr ⟨i, j', l', Int.le_refl _, h1, h2, h3, h4⟩
    by_cases c : i ≤ j
    · have c0 : decide (i ≤ j) = true := decide_eq_true c
      revert out
      have ci : decide ((0 : Int) ≤ i ∧ i < (l.length : Int)) = true := decide_eq_true (by omega)
      have w2 : IntKind.i64.wrap (i + (1 : Int)) = i + 1 := i64_in (by omega) (by omega)
      intro out
      simp only [L66_3, b66_3, c0, ca, ci, w2, if_true, F64_eq, Option.bind_some]
      by_cases d : l.getD i.toNat z32 < l.getD a.toNat z32
      · rw [decide_eq_true d]
        clear out
        rcases L66_3_eq r2 n (i + 1) j l (by omega) (by omega) hj hl hl2 with h | ⟨i', j', l', h0, h1, h2, h3, h4⟩
        · exact .inl h
        · exact .inr ⟨i', j', l', Int.le_trans (Int.le_add_of_nonneg_right (by decide)) h0, h1, h2, h3, h4⟩
      · rw [decide_eq_false d]
        exact out
    · have c0 : decide (i ≤ j) = false := decide_eq_false c
      simp only [L66_3, b66_3, c0, Bool.false_eq_true, if_false]
      exact out
theorem L66_2_eq : ∀ (n : Nat) (i j : Int) (l : List Int), (j - i + 2).toNat < n → a < i → a ≤ j → j < l.length → l.length ≤ 2000 →
    ∃ (m : Int) (l' : List Int), a ≤ m ∧ m ≤ j ∧ l'.Perm l ∧ L66_2 (F64 K) K a b p o0 n i j l = some ((m, false), l')
  | 0, i, j, l, h, _, _, _, _ => by omega
  | n + 1, i, j, l, h, hi, hj, hl, hl2 => by
    simp only [L66_2, b66_2]
    rcases L66_3_eq K hK a b p ha o0 (L66_2 (F64 K) K a b p o0 n) K i j l (by omega) hi hj hl hl2 with h | ⟨i', j', l', h0, h1, h2, h3, h4⟩
    · exact h
    · have hl1 := h3.length_eq
      obtain ⟨m, l2, e1, e2, e3, e4⟩ := L66_2_eq n (i' + 1) (j' - 1) l' (by omega) (by omega) (by omega) (by omega) (by omega)
      exact ⟨m, l2, e1, by omega, e3.trans h3, h4.trans e4⟩
theorem L66_1_eq (hp0 : a ≤ p) (hpb : p < b) (hb : b ≤ o0.length) (hl2 : o0.length ≤ 2000) : ∀ (n : Nat) (i j : Int), (j - i + 1).toNat < n → a < i → a ≤ j → j < b →
    ∃ (m : Int) (e : Bool) (l' : List Int), a ≤ m ∧ m < b ∧ l'.Perm o0 ∧ L66_1 (F64 K) K a b p o0 n i j = some ((m, e), l')
  | 0, i, j, h, _, _, _ => by omega
  | n + 1, i, j, h, hi, hj, hjb => by
    have ca : decide ((0 : Int) ≤ a ∧ a < (o0.length : Int)) = true := decide_eq_true (by omega)
    have cj : decide ((0 : Int) ≤ j ∧ j < (o0.length : Int)) = true := decide_eq_true (by omega)
    have pp : (swp o0 a.toNat p.toNat).Perm o0 := swp_perm (by omega) (by omega)
    have pl := pp.length_eq
    by_cases c : i ≤ j
    · have c0 : decide (i ≤ j) = true := decide_eq_true c
      have c1 : decide (i > j) = false := decide_eq_false (by omega)
      have ci : decide ((0 : Int) ≤ i ∧ i < (o0.length : Int)) = true := decide_eq_true (by omega)
      have w1 : IntKind.i64.wrap (j - (1 : Int)) = j - 1 := i64_in (by omega) (by omega)
      have w2 : IntKind.i64.wrap (i + (1 : Int)) = i + 1 := i64_in (by omega) (by omega)
      simp only [L66_1, b66_1, c0, c1, ca, cj, ci, w1, w2, if_true, F64_eq, Option.bind_some, List.length_set, Bool.false_eq_true, if_false]
      by_cases d : ((o0.set a.toNat (o0.getD p.toNat z32)).set p.toNat (o0.getD a.toNat z32)).getD j.toNat z32 < ((o0.set a.toNat (o0.getD p.toNat z32)).set p.toNat (o0.getD a.toNat z32)).getD a.toNat z32
      · rw [decide_eq_true d]
        obtain ⟨m, l2, e1, e2, e3, e4⟩ := L66_2_eq K hK a b p ha o0 K (i + 1) (j - 1) (swp (swp o0 a.toNat p.toNat) i.toNat j.toNat) (by omega) (by omega) (by omega) (by rw [swp_len]; omega) (by rw [swp_len]; omega)
        exact ⟨m, false, l2, e1, by omega, e3.trans ((swp_perm (by omega) (by omega)).trans pp), e4⟩
      · rw [decide_eq_false d]
        exact L66_1_eq hp0 hpb hb hl2 n i (j - 1) (by omega) hi (by omega) (by omega)
    · have c0 : decide (i ≤ j) = false := decide_eq_false c
      have c1 : decide (i > j) = true := decide_eq_true (by omega)
      simp only [L66_1, b66_1, c0, c1, ca, cj, if_true, List.length_set, Bool.false_eq_true, if_false]
      exact ⟨j, true, swp (swp o0 a.toNat p.toNat) j.toNat a.toNat, hj, hjb, (swp_perm (by omega) (by omega)).trans pp, rfl⟩
theorem L66_0_eq (hp0 : a ≤ p) (hpb : p < b) (hb : b ≤ o0.length) (hl2 : o0.length ≤ 2000) : ∀ (n : Nat) (i : Int), (b - i).toNat < n → a < i → i ≤ b →
    ∃ (m : Int) (e : Bool) (l' : List Int), a ≤ m ∧ m < b ∧ l'.Perm o0 ∧ L66_0 (F64 K) K a b p o0 n i = some ((m, e), l')
  | 0, i, h, _, _ => by omega
  | n + 1, i, h, hi, hib => by
    have w0 : IntKind.i64.wrap (b - (1 : Int)) = b - 1 := i64_in (by omega) (by omega)
    have ca : decide ((0 : Int) ≤ a ∧ a < (o0.length : Int)) = true := decide_eq_true (by omega)
    have out := L66_1_eq K hK a b p ha o0 hp0 hpb hb hl2 K i (b - 1) (by omega) hi (by omega) (by omega)
    by_cases c : i ≤ b - 1
    · have c0 : decide (i ≤ b - 1) = true := decide_eq_true c
      revert out
      have ci : decide ((0 : Int) ≤ i ∧ i < (o0.length : Int)) = true := decide_eq_true (by omega)
      have w2 : IntKind.i64.wrap (i + (1 : Int)) = i + 1 := i64_in (by omega) (by omega)
      intro out
      simp only [L66_0, b66_0, w0, c0, ca, ci, w2, if_true, F64_eq, Option.bind_some, List.length_set]
      by_cases d : ((o0.set a.toNat (o0.getD p.toNat z32)).set p.toNat (o0.getD a.toNat z32)).getD i.toNat z32 < ((o0.set a.toNat (o0.getD p.toNat z32)).set p.toNat (o0.getD a.toNat z32)).getD a.toNat z32
      · rw [decide_eq_true d]
        clear out
        exact L66_0_eq hp0 hpb hb hl2 n (i + 1) (by omega) (by omega) (by omega)
      · rw [decide_eq_false d]
        exact out
    · have c0 : decide (i ≤ b - 1) = false := decide_eq_false c
      simp only [L66_0, b66_0, w0, c0, Bool.false_eq_true, if_false]
      exact out
theorem F66_eq (hp0 : a ≤ p) (hpb : p < b) (hb : b ≤ o0.length) (hl2 : o0.length ≤ 2000) :
    ∃ (m : Int) (e : Bool) (l' : List Int), a ≤ m ∧ m < b ∧ l'.Perm o0 ∧ F66 K a b p o0 = some ((m, e), l') := by
  have ca : decide ((0 : Int) ≤ a ∧ a < (o0.length : Int)) = true := decide_eq_true (by omega)
  have cp : decide ((0 : Int) ≤ p ∧ p < (o0.length : Int)) = true := decide_eq_true (by omega)
  have w2 : IntKind.i64.wrap (a + (1 : Int)) = a + 1 := i64_in (by omega) (by omega)
  simp only [F66, G66, t66, ca, cp, if_true, List.length_set, w2]
  exact L66_0_eq K hK a b p ha o0 hp0 hpb hb hl2 K (a + 1) (by omega) (by omega) (by omega)
end
end Go.Proofs.YtlpalhgiiodjoaaE
