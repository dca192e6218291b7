/- The library's sort of numbers: the parts beside the partition. -/
import Derived.Test.YtlpalhgiiodjoaaP16T
set_option linter.all false
namespace Go.Proofs.YtlpalhgiiodjoaaE
open Go Go.Proofs
set_option maxRecDepth 100000
set_option linter.unusedVariables false
section
variable (K : Nat) (hK : 2010 ≤ K) (a b p : Int) (ha : 0 ≤ a) (o0 : List Int)
include hK ha
/-! those that are the same -/
theorem L65_2_eq (r0 : Int → Int → List Int → Option (Int × List Int)) : ∀ (n : Nat) (i j : Int) (l : List Int), (j - i + 1).toNat < n → a < i → i ≤ b → a ≤ j → j < b → b ≤ l.length → l.length ≤ 2000 →
    (∃ (l' : List Int), l'.Perm l ∧ L65_2 (F64 K) K a b p o0 r0 n i j l = some (i, l')) ∨
    (∃ (j' : Int) (l' : List Int), i ≤ j' ∧ j' ≤ j ∧ l'.Perm l ∧ L65_2 (F64 K) K a b p o0 r0 n i j l = r0 (i + 1) (j' - 1) l')
  | 0, i, j, l, h, _, _, _, _, _, _ => by omega
  | n + 1, i, j, l, h, hi, hib, hj, hjb, hl, hl2 => by
    have ca : decide ((0 : Int) ≤ a ∧ a < (l.length : Int)) = true := decide_eq_true (by omega)
    have cj : decide ((0 : Int) ≤ j ∧ j < (l.length : Int)) = true := decide_eq_true (by omega)
    by_cases c : i ≤ j
    · have c0 : decide (i ≤ j) = true := decide_eq_true c
      have c1 : decide (i > j) = false := decide_eq_false (by omega)
      have ci : decide ((0 : Int) ≤ i ∧ i < (l.length : Int)) = true := decide_eq_true (by omega)
      have w1 : IntKind.i64.wrap (j - (1 : Int)) = j - 1 := i64_in (by omega) (by omega)
      have w2 : IntKind.i64.wrap (i + (1 : Int)) = i + 1 := i64_in (by omega) (by omega)
      simp only [L65_2, b65_2, c0, c1, ca, cj, ci, w1, w2, if_true, F64_eq, Option.bind_some, List.length_set, Bool.false_eq_true, if_false]
      by_cases d : l.getD a.toNat z32 < l.getD j.toNat z32
      · rw [decide_eq_true d, if_pos rfl]
        rcases L65_2_eq r0 n i (j - 1) l (by omega) hi hib (by omega) (by omega) hl hl2 with h | ⟨j', l', h1, h2, h3, h4⟩
        · exact .inl h
        · exact .inr ⟨j', l', h1, by omega, h3, h4⟩
      · rw [decide_eq_false d, if_neg (by decide)]
        exact .inr ⟨j, swp l i.toNat j.toNat, c, Int.le_refl _, swp_perm (by omega) (by omega), rfl⟩
    · have c0 : decide (i ≤ j) = false := decide_eq_false c
      have c1 : decide (i > j) = true := decide_eq_true (by omega)
      simp only [L65_2, b65_2, c0, c1, if_true, Bool.false_eq_true, if_false]
      exact .inl ⟨l, List.Perm.refl _, rfl⟩
theorem L65_1_eq (r0 : Int → Int → List Int → Option (Int × List Int)) : ∀ (n : Nat) (i j : Int) (l : List Int), (j - i + 1).toNat < n → a < i → i ≤ b → a ≤ j → j < b → b ≤ l.length → l.length ≤ 2000 →
    (∃ (i' : Int) (l' : List Int), i ≤ i' ∧ i' ≤ b ∧ l'.Perm l ∧ L65_1 (F64 K) K a b p o0 r0 n i j l = some (i', l')) ∨
    (∃ (i' j' : Int) (l' : List Int), i ≤ i' ∧ i' ≤ j' ∧ j' ≤ j ∧ l'.Perm l ∧ L65_1 (F64 K) K a b p o0 r0 n i j l = r0 (i' + 1) (j' - 1) l')
  | 0, i, j, l, h, _, _, _, _, _, _ => by omega
  | n + 1, i, j, l, h, hi, hib, hj, hjb, hl, hl2 => by
    have ca : decide ((0 : Int) ≤ a ∧ a < (l.length : Int)) = true := decide_eq_true (by omega)
    have out : (∃ (i' : Int) (l' : List Int), i ≤ i' ∧ i' ≤ b ∧ l'.Perm l ∧ L65_2 (F64 K) K a b p o0 r0 K i j l = some (i', l')) ∨
        (∃ (i' j' : Int) (l' : List Int), i ≤ i' ∧ i' ≤ j' ∧ j' ≤ j ∧ l'.Perm l ∧ L65_2 (F64 K) K a b p o0 r0 K i j l = r0 (i' + 1) (j' - 1) l') := by
      rcases L65_2_eq K hK a b p ha o0 r0 K i j l (by omega) hi hib hj hjb hl hl2 with ⟨l', h1, h2⟩ | ⟨j', l', h1, h2, h3, h4⟩
      · exact .inl ⟨i, l', Int.le_refl _, hib, h1, h2⟩
      · exact .inr ⟨i, j', l', Int.le_refl _, h1, h2, h3, h4⟩
    by_cases c : i ≤ j
    · have c0 : decide (i ≤ j) = true := decide_eq_true c
      revert out
      have ci : decide ((0 : Int) ≤ i ∧ i < (l.length : Int)) = true := decide_eq_true (by omega)
      have w2 : IntKind.i64.wrap (i + (1 : Int)) = i + 1 := i64_in (by omega) (by omega)
      intro out
      simp only [L65_1, b65_1, c0, ca, ci, w2, if_true, F64_eq, Option.bind_some]
      by_cases d : l.getD a.toNat z32 < l.getD i.toNat z32
      · rw [decide_eq_true d]
        exact out
      · rw [decide_eq_false d]
        clear out
        rcases L65_1_eq r0 n (i + 1) j l (by omega) (by omega) (by omega) hj hjb hl hl2 with ⟨i', l', h0, h⟩ | ⟨i', j', l', h0, h1, h2, h3, h4⟩
        · exact .inl ⟨i', l', by omega, h⟩
        · exact .inr ⟨i', j', l', by omega, h1, h2, h3, h4⟩
    · have c0 : decide (i ≤ j) = false := decide_eq_false c
      simp only [L65_1, b65_1, c0, Bool.false_eq_true, if_false]
      exact out
theorem L65_0_eq : ∀ (n : Nat) (i j : Int) (l : List Int), (j - i + 2).toNat < n → a < i → i ≤ b → a ≤ j → j < b → b ≤ l.length → l.length ≤ 2000 →
    ∃ (m : Int) (l' : List Int), a < m ∧ m ≤ b ∧ l'.Perm l ∧ L65_0 (F64 K) K a b p o0 n i j l = some (m, l')
  | 0, i, j, l, h, _, _, _, _, _, _ => by omega
  | n + 1, i, j, l, h, hi, hib, hj, hjb, hl, hl2 => by
    simp only [L65_0, b65_0]
    rcases L65_1_eq K hK a b p ha o0 (L65_0 (F64 K) K a b p o0 n) K i j l (by omega) hi hib hj hjb hl hl2 with ⟨i', l', h0, h1, h2, h3⟩ | ⟨i', j', l', h0, h1, h2, h3, h4⟩
    · exact ⟨i', l', by omega, h1, h2, h3⟩
    · have hl1 := h3.length_eq
      obtain ⟨m, l2, e1, e2, e3, e4⟩ := L65_0_eq n (i' + 1) (j' - 1) l' (by omega) (by omega) (by omega) (by omega) (by omega) (by omega) (by omega)
      exact ⟨m, l2, e1, e2, e3.trans h3, h4.trans e4⟩
theorem F65_eq (hp0 : a ≤ p) (hpb : p < b) (hb : b ≤ o0.length) (hl2 : o0.length ≤ 2000) :
    ∃ (m : Int) (l' : List Int), a < m ∧ m ≤ b ∧ l'.Perm o0 ∧ F65 K a b p o0 = some (m, l') := by
  have ca : decide ((0 : Int) ≤ a ∧ a < (o0.length : Int)) = true := decide_eq_true (by omega)
  have cp : decide ((0 : Int) ≤ p ∧ p < (o0.length : Int)) = true := decide_eq_true (by omega)
  have w1 : IntKind.i64.wrap (b - (1 : Int)) = b - 1 := i64_in (by omega) (by omega)
  have w2 : IntKind.i64.wrap (a + (1 : Int)) = a + 1 := i64_in (by omega) (by omega)
  have pp : (swp o0 a.toNat p.toNat).Perm o0 := swp_perm (by omega) (by omega)
  have pl := pp.length_eq
  simp only [F65, G65, t65, ca, cp, if_true, List.length_set, w1, w2]
  obtain ⟨m, l', h1, h2, h3, h4⟩ := L65_0_eq K hK a b p ha o0 K (a + 1) (b - 1) (swp o0 a.toNat p.toNat) (by omega) (by omega) (by omega) (by omega) (by omega) (by omega) (by omega)
  exact ⟨m, l', h1, h2, h3.trans pp, h4⟩
/-! already in order? -/
theorem L63_1_eq (hab : a < b) (hbl : b ≤ o0.length) (hs : b - a < 50) (hl2 : o0.length ≤ 2000) (r0 : Int → Int → List Int → Option (Bool × List Int)) (j : Int) : ∀ (n : Nat) (i : Int), (b - i).toNat < n → a < i → i ≤ b →
    ∃ e : Bool, L63_1 (F64 K) K a b o0 r0 n i j o0 = some (e, o0)
  | 0, i, h, _, _ => by omega
  | n + 1, i, h, hi, hib => by
    have w3 : IntKind.i64.wrap (b - a) = b - a := i64_in (by omega) (by omega)
    by_cases c : i < b
    · have c0 : decide (i < b) = true := decide_eq_true c
      have ci : decide ((0 : Int) ≤ i ∧ i < (o0.length : Int)) = true := decide_eq_true (by omega)
      have w1 : IntKind.i64.wrap (i - (1 : Int)) = i - 1 := i64_in (by omega) (by omega)
      have w2 : IntKind.i64.wrap (i + (1 : Int)) = i + 1 := i64_in (by omega) (by omega)
      have cj : decide ((0 : Int) ≤ i - 1 ∧ i - 1 < (o0.length : Int)) = true := decide_eq_true (by omega)
      have cb : (i == b) = false := beq_eq_false_iff_ne.2 (by omega)
      have cs : decide (b - a < (50 : Int)) = true := decide_eq_true (by omega)
      simp only [L63_1, b63_1, c0, ci, w1, w2, cj, cb, w3, cs, if_true, F64_eq, Option.bind_some, Bool.false_eq_true, if_false]
      by_cases d : o0.getD i.toNat z32 < o0.getD (i - 1).toNat z32
      · rw [decide_eq_true d]
        exact ⟨false, rfl⟩
      · rw [decide_eq_false d]
        exact L63_1_eq hab hbl hs hl2 r0 j n (i + 1) (by omega) (by omega) (by omega)
    · have c0 : decide (i < b) = false := decide_eq_false c
      have cb : (i == b) = true := beq_iff_eq.2 (by omega)
      simp only [L63_1, b63_1, c0, cb, Bool.false_eq_true, if_false, if_true]
      exact ⟨true, rfl⟩
theorem F63_eq (hab : a < b) (hbl : b ≤ o0.length) (hs : b - a < 50) (hl2 : o0.length ≤ 2000) : ∃ e : Bool, F63 K a b o0 = some (e, o0) := by
  have w2 : IntKind.i64.wrap (a + (1 : Int)) = a + 1 := i64_in (by omega) (by omega)
  simp only [F63, G63, t63, w2]
  obtain ⟨k, rfl⟩ : ∃ k, K = k + 1 := ⟨K - 1, by omega⟩
  have c : decide ((0 : Int) < (5 : Int)) = true := rfl
  simp only [L63_0, b63_0, c, if_true]
  exact L63_1_eq (k + 1) hK a b ha o0 hab hbl hs hl2 _ 0 (k + 1) (a + 1) (by omega) (by omega) (by omega)
end
/-! the pivot -/
theorem F85_eq (K : Nat) (x y : Int) (l : List Int) (o : Int) (hx : 0 ≤ x ∧ x < l.length) (hy : 0 ≤ y ∧ y < l.length) (ho : 0 ≤ o ∧ o ≤ 100) :
    ∃ (x' y' o' : Int), (x' = x ∨ x' = y) ∧ (y' = x ∨ y' = y) ∧ (o' = o ∨ o' = o + 1) ∧ F85 K x y l o = some ((x', y'), l, o') := by
  have cx : decide ((0 : Int) ≤ x ∧ x < (l.length : Int)) = true := decide_eq_true hx
  have cy : decide ((0 : Int) ≤ y ∧ y < (l.length : Int)) = true := decide_eq_true hy
  have w : IntKind.i64.wrap (o + (1 : Int)) = o + 1 := i64_in (by omega) (by omega)
  simp only [F85, G85, t85, cx, cy, if_true, F64_eq, Option.bind_some, w]
  by_cases d : l.getD y.toNat z32 < l.getD x.toNat z32
  · rw [decide_eq_true d]
    exact ⟨y, x, o + 1, .inr rfl, .inl rfl, .inr rfl, rfl⟩
  · rw [decide_eq_false d]
    exact ⟨x, y, o, .inl rfl, .inr rfl, .inl rfl, rfl⟩
theorem F75_eq (K : Nat) (x y z : Int) (l : List Int) (hx : 0 ≤ x ∧ x < l.length) (hy : 0 ≤ y ∧ y < l.length) (hz : 0 ≤ z ∧ z < l.length) :
    ∃ (m o' : Int), (m = x ∨ m = y ∨ m = z) ∧ 0 ≤ o' ∧ o' ≤ 3 ∧ F75 K x y z l 0 = some (m, l, o') := by
  obtain ⟨a1, b1, o1, h1, h2, h3, e1⟩ := F85_eq K x y l 0 hx hy (by omega)
  obtain ⟨b2, c2, o2, h4, h5, h6, e2⟩ := F85_eq K b1 z l o1 (by omega) hz (by omega)
  obtain ⟨a3, b3, o3, h7, h8, h9, e3⟩ := F85_eq K a1 b2 l o2 (by omega) (by omega) (by omega)
  refine ⟨b3, o3, by omega, by omega, by omega, ?_⟩
  simp only [F75, G75, t75, e1, Option.bind_some, e2, e3]
theorem F61_eq (K : Nat) (a b : Int) (l : List Int) (ha : 0 ≤ a) (h8 : 8 ≤ b - a) (h50 : b - a < 50) (hb : b ≤ l.length) (hl : l.length ≤ 2000) :
    ∃ (m h : Int), a ≤ m ∧ m < b ∧ h ≠ 2 ∧ F61 K a b l = some ((m, h), l) := by
  have w : IntKind.i64.wrap (b - a) = b - a := i64_in (by omega) (by omega)
  have q : Int.tdiv (b - a) 4 = (b - a) / 4 := Int.tdiv_eq_ediv_of_nonneg (by omega)
  have w0 : IntKind.i64.wrap ((b - a) / 4) = (b - a) / 4 := i64_in (by omega) (by omega)
  have w1 : IntKind.i64.wrap ((b - a) / 4 * (1 : Int)) = (b - a) / 4 := by rw [i64_in] <;> omega
  have w2 : IntKind.i64.wrap ((b - a) / 4 * (2 : Int)) = (b - a) / 4 * 2 := i64_in (by omega) (by omega)
  have w3 : IntKind.i64.wrap ((b - a) / 4 * (3 : Int)) = (b - a) / 4 * 3 := i64_in (by omega) (by omega)
  have x1 : IntKind.i64.wrap (a + (b - a) / 4) = a + (b - a) / 4 := i64_in (by omega) (by omega)
  have x2 : IntKind.i64.wrap (a + (b - a) / 4 * 2) = a + (b - a) / 4 * 2 := i64_in (by omega) (by omega)
  have x3 : IntKind.i64.wrap (a + (b - a) / 4 * 3) = a + (b - a) / 4 * 3 := i64_in (by omega) (by omega)
  have c1 : decide (b - a ≥ (8 : Int)) = true := decide_eq_true h8
  have c2 : decide (b - a ≥ (50 : Int)) = false := decide_eq_false (by omega)
  obtain ⟨m, o, hm, ho, ho3, e⟩ := F75_eq K (a + (b - a) / 4) (a + (b - a) / 4 * 2) (a + (b - a) / 4 * 3) l (by omega) (by omega) (by omega)
  have c12 : (o == (12 : Int)) = false := beq_eq_false_iff_ne.2 (by omega)
  simp only [F61, G61, t61, w, q, w0, w1, w2, w3, x1, x2, x3, c1, c2, if_true, Bool.false_eq_true, if_false, e, Option.bind_some, c12]
  by_cases c : (o == (0 : Int)) = true
  · rw [if_pos c]
    exact ⟨m, 1, by omega, by omega, by decide, rfl⟩
  · rw [if_neg c]
    exact ⟨m, 0, by omega, by omega, by decide, rfl⟩
/-! patterns broken -/
theorem F73_eq (K : Nat) (o : Int) : ∃ x o' : Int, F73 K o = some (x, o') := by
  unfold F73 G73 t73
  exact ⟨_, _, rfl⟩
theorem F72_eq (K : Nat) (n : Int) (h0 : 13 ≤ n) (h1 : n ≤ 16) : ∃ x : Int, (x = 16 ∨ x = 32) ∧ F72 K n = some x ∧ x ≤ 2 * n := by
  have : n = 13 ∨ n = 14 ∨ n = 15 ∨ n = 16 := by omega
  rcases this with rfl | rfl | rfl | rfl
  · exact ⟨16, .inl rfl, rfl, by decide⟩
  · exact ⟨16, .inl rfl, rfl, by decide⟩
  · exact ⟨16, .inl rfl, rfl, by decide⟩
  · exact ⟨32, .inr rfl, rfl, by decide⟩
theorem and_le (x : Int) (m : Nat) (hm : m < 2 ^ 63) : ∃ k : Nat, k ≤ m ∧ IntKind.u64.wrap (((BitVec.ofInt IntKind.u64.bits x &&& BitVec.ofInt IntKind.u64.bits (m : Int)).toNat : Nat) : Int) = (k : Int) := by
  refine ⟨(BitVec.ofInt IntKind.u64.bits x &&& BitVec.ofInt IntKind.u64.bits (m : Int)).toNat, ?_, ?_⟩
  · rw [BitVec.toNat_and]
    refine Nat.le_trans Nat.and_le_right ?_
    show (BitVec.ofInt 64 (m : Int)).toNat ≤ m
    rw [BitVec.toNat_ofInt]
    omega
  · refine u64_in (by omega) ?_
    have := (BitVec.ofInt IntKind.u64.bits x &&& BitVec.ofInt IntKind.u64.bits (m : Int)).isLt
    have e : (2 : Nat) ^ IntKind.u64.bits = 18446744073709551616 := rfl
    omega
section
variable (K : Nat) (hK : 2010 ≤ K) (a b : Int) (ha : 0 ≤ a) (o0 : List Int)
include hK ha
theorem L60_0_eq (h13 : 13 ≤ b - a) (h16 : b - a ≤ 16) (x : Int) (hx : x = 16 ∨ x = 32) (hx2 : x ≤ 2 * (b - a)) : ∀ (n : Nat) (i s : Int) (l : List Int), (a + 20 - i).toNat < n → a ≤ i → b ≤ l.length → l.length ≤ 2000 →
    ∃ (l' : List Int), l'.Perm l ∧ L60_0 (F72 K) (F73 K) K a b o0 n x i s l = some ((), l')
  | 0, i, s, l, h, _, _, _ => by omega
  | n + 1, i, s, l, h, hi, hb, hl => by
    have w : IntKind.i64.wrap (b - a) = b - a := i64_in (by omega) (by omega)
    have q : Int.tdiv (b - a) 4 = (b - a) / 4 := Int.tdiv_eq_ediv_of_nonneg (by omega)
    have w0 : IntKind.i64.wrap ((b - a) / 4) = (b - a) / 4 := i64_in (by omega) (by omega)
    have w2 : IntKind.i64.wrap ((b - a) / 4 * (2 : Int)) = (b - a) / 4 * 2 := i64_in (by omega) (by omega)
    have x2 : IntKind.i64.wrap (a + (b - a) / 4 * 2) = a + (b - a) / 4 * 2 := i64_in (by omega) (by omega)
    have x3 : IntKind.i64.wrap (a + (b - a) / 4 * 2 + (1 : Int)) = a + (b - a) / 4 * 2 + 1 := i64_in (by omega) (by omega)
    by_cases c : i ≤ a + (b - a) / 4 * 2 + 1
    · have c0 : decide (i ≤ a + (b - a) / 4 * 2 + 1) = true := decide_eq_true c
      obtain ⟨y, s', e⟩ := F73_eq K s
      have wx : IntKind.u64.wrap (x - (1 : Int)) = (((x - 1).toNat : Nat) : Int) := by rw [u64_in] <;> omega
      obtain ⟨k, hk, ek⟩ := and_le y (x - 1).toNat (by omega)
      have wk : IntKind.i64.wrap (k : Int) = (k : Int) := i64_in (by omega) (by omega)
      have ci : decide ((0 : Int) ≤ i ∧ i < (l.length : Int)) = true := decide_eq_true (by omega)
      have wi : IntKind.i64.wrap (i + (1 : Int)) = i + 1 := i64_in (by omega) (by omega)
      simp only [L60_0, b60_0, w, q, w0, w2, x2, x3, c0, e, Option.bind_some, wx, ek, wk, if_true, ci, wi, List.length_set]
      by_cases d : (k : Int) ≥ b - a
      · have v1 : IntKind.i64.wrap ((k : Int) - (b - a)) = k - (b - a) := i64_in (by omega) (by omega)
        have v2 : IntKind.i64.wrap (a + (k - (b - a))) = a + (k - (b - a)) := i64_in (by omega) (by omega)
        have ck : decide ((0 : Int) ≤ a + (k - (b - a)) ∧ a + (k - (b - a)) < (l.length : Int)) = true := decide_eq_true (by omega)
        rw [if_pos (decide_eq_true d)]
        simp only [v1, v2, ck, if_true]
        obtain ⟨l', p, e'⟩ := L60_0_eq h13 h16 x hx hx2 n (i + 1) s' (swp l i.toNat (a + (k - (b - a))).toNat) (by omega) (by omega) (by rw [swp_len]; omega) (by rw [swp_len]; omega)
        exact ⟨l', p.trans (swp_perm (by omega) (by omega)), e'⟩
      · have v2 : IntKind.i64.wrap (a + (k : Int)) = a + k := i64_in (by omega) (by omega)
        have ck : decide ((0 : Int) ≤ a + (k : Int) ∧ a + (k : Int) < (l.length : Int)) = true := decide_eq_true (by omega)
        rw [if_neg (by rw [decide_eq_false d]; decide)]
        simp only [v2, ck, if_true]
        obtain ⟨l', p, e'⟩ := L60_0_eq h13 h16 x hx hx2 n (i + 1) s' (swp l i.toNat (a + (k : Int)).toNat) (by omega) (by omega) (by rw [swp_len]; omega) (by rw [swp_len]; omega)
        exact ⟨l', p.trans (swp_perm (by omega) (by omega)), e'⟩
    · have c0 : decide (i ≤ a + (b - a) / 4 * 2 + 1) = false := decide_eq_false c
      simp only [L60_0, b60_0, w, q, w0, w2, x2, x3, c0, Bool.false_eq_true, if_false]
      exact ⟨l, List.Perm.refl _, rfl⟩
theorem F60_eq (h13 : 13 ≤ b - a) (h16 : b - a ≤ 16) (hb : b ≤ o0.length) (hl : o0.length ≤ 2000) : ∃ (l' : List Int), l'.Perm o0 ∧ F60 K a b o0 = some ((), l') := by
  have w : IntKind.i64.wrap (b - a) = b - a := i64_in (by omega) (by omega)
  have q : Int.tdiv (b - a) 4 = (b - a) / 4 := Int.tdiv_eq_ediv_of_nonneg (by omega)
  have w0 : IntKind.i64.wrap ((b - a) / 4) = (b - a) / 4 := i64_in (by omega) (by omega)
  have w2 : IntKind.i64.wrap ((b - a) / 4 * (2 : Int)) = (b - a) / 4 * 2 := i64_in (by omega) (by omega)
  have x2 : IntKind.i64.wrap (a + (b - a) / 4 * 2) = a + (b - a) / 4 * 2 := i64_in (by omega) (by omega)
  have x3 : IntKind.i64.wrap (a + (b - a) / 4 * 2 - (1 : Int)) = a + (b - a) / 4 * 2 - 1 := i64_in (by omega) (by omega)
  have c : decide (b - a ≥ (8 : Int)) = true := decide_eq_true (by omega)
  obtain ⟨x, hx, ex, hx2⟩ := F72_eq K (b - a) h13 h16
  simp only [F60, G60, t60, w, q, w0, w2, x2, x3, c, if_true, ex, Option.bind_some]
  exact L60_0_eq K hK a b ha o0 h13 h16 x hx hx2 K _ _ o0 (by omega) (by omega) hb hl
end
end Go.Proofs.YtlpalhgiiodjoaaE
