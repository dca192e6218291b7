/- Gang: columns as bits of a number below 2^128. -/
import Derived.Test.YtlpalhgiiodjoaaS16F7
import Derived.Test.YtlpalhgiiodjoaaPu0
set_option linter.all false
namespace Go.Proofs.YtlpalhgiiodjoaaE
open Go Go.Proofs
set_option maxRecDepth 100000
set_option linter.unusedVariables false
/-- columns that a number below 2^128 stands for -/
def col (x : Nat) : El T65 := ((x % 18446744073709551616 : Nat), (x / 18446744073709551616 : Nat), (0 : Int), (0 : Int), (0 : Int), (0 : Int), (0 : Int), (0 : Int), (0 : Int), (0 : Int), (0 : Int), (0 : Int), (0 : Int), (0 : Int), (0 : Int), (0 : Int))
theorem u64_id {x : Nat} (h : x < 18446744073709551616) : IntKind.u64.wrap (x : Int) = x := by simp [IntKind.wrap, IntKind.bits, IntKind.signed]; omega
theorem or64 {x y : Nat} (hx : x < 18446744073709551616) (hy : y < 18446744073709551616) : IntKind.u64.wrap (↑(BitVec.ofInt IntKind.u64.bits (x : Int) ||| BitVec.ofInt IntKind.u64.bits (y : Int)).toNat : Int) = ((x ||| y : Nat) : Int) := by
  have e : (BitVec.ofInt IntKind.u64.bits (x : Int) ||| BitVec.ofInt IntKind.u64.bits (y : Int)).toNat = x ||| y := by
    show (BitVec.ofInt 64 (x : Int) ||| BitVec.ofInt 64 (y : Int)).toNat = x ||| y
    rw [BitVec.toNat_or, BitVec.ofInt_natCast, BitVec.ofInt_natCast, BitVec.toNat_ofNat, BitVec.toNat_ofNat, Nat.mod_eq_of_lt hx, Nat.mod_eq_of_lt hy]
  rw [e, u64_id (Nat.or_lt_two_pow (n := 64) hx hy)]
theorem and64 {x y : Nat} (hx : x < 18446744073709551616) (hy : y < 18446744073709551616) : IntKind.u64.wrap (↑(BitVec.ofInt IntKind.u64.bits (x : Int) &&& BitVec.ofInt IntKind.u64.bits (y : Int)).toNat : Int) = ((x &&& y : Nat) : Int) := by
  have e : (BitVec.ofInt IntKind.u64.bits (x : Int) &&& BitVec.ofInt IntKind.u64.bits (y : Int)).toNat = x &&& y := by
    show (BitVec.ofInt 64 (x : Int) &&& BitVec.ofInt 64 (y : Int)).toNat = x &&& y
    rw [BitVec.toNat_and, BitVec.ofInt_natCast, BitVec.ofInt_natCast, BitVec.toNat_ofNat, BitVec.toNat_ofNat, Nat.mod_eq_of_lt hx, Nat.mod_eq_of_lt hy]
  rw [e, u64_id (Nat.and_lt_two_pow (n := 64) x hy)]
theorem or00 : IntKind.u64.wrap (↑(BitVec.ofInt IntKind.u64.bits (0 : Int) ||| BitVec.ofInt IntKind.u64.bits (0 : Int)).toNat : Int) = 0 := or64 (x := 0) (y := 0) (by omega) (by omega)
theorem and00 : IntKind.u64.wrap (↑(BitVec.ofInt IntKind.u64.bits (0 : Int) &&& BitVec.ofInt IntKind.u64.bits (0 : Int)).toNat : Int) = 0 := and64 (x := 0) (y := 0) (by omega) (by omega)
def B128 : Nat := 340282366920938463463374607431768211456
theorem lo_lt (x : Nat) : x % 18446744073709551616 < 18446744073709551616 := Nat.mod_lt _ (by omega)
theorem hi_lt {x : Nat} (h : x < B128) : x / 18446744073709551616 < 18446744073709551616 := by unfold B128 at h; omega
theorem or_mod (x y : Nat) : (x ||| y) % 18446744073709551616 = x % 18446744073709551616 ||| y % 18446744073709551616 := Nat.or_mod_two_pow (n := 64)
theorem or_div (x y : Nat) : (x ||| y) / 18446744073709551616 = x / 18446744073709551616 ||| y / 18446744073709551616 := Nat.or_div_two_pow (n := 64)
theorem and_mod (x y : Nat) : (x &&& y) % 18446744073709551616 = x % 18446744073709551616 &&& y % 18446744073709551616 := Nat.and_mod_two_pow (n := 64)
theorem and_div (x y : Nat) : (x &&& y) / 18446744073709551616 = x / 18446744073709551616 &&& y / 18446744073709551616 := Nat.and_div_two_pow (n := 64)
theorem F34_eq (K : Nat) {x y : Nat} (hx : x < B128) (hy : y < B128) : F34 K (col x) (col y) = some (col (x ||| y)) := by
  simp only [F34, G34, t34, col, or00, or64 (lo_lt x) (lo_lt y), or64 (hi_lt hx) (hi_lt hy), or_mod, or_div]
theorem F46_eq (K : Nat) {x y : Nat} (hx : x < B128) (hy : y < B128) : F46 K (col x) (col y) = some (col (x &&& y)) := by
  simp only [F46, G46, t46, col, and00, and64 (lo_lt x) (lo_lt y), and64 (hi_lt hx) (hi_lt hy), and_mod, and_div]
theorem F33_eq (K : Nat) {x y : Nat} (hx : x < B128) (hy : y < B128) : F33 K (col x) (col y) = some (decide (x &&& y ≠ 0)) := by
  simp only [F33, G33, t33, F46_eq K hx hy, Option.bind_some]
  simp only [col]
  generalize x &&& y = z
  have h : (z = 0) ↔ (z % 18446744073709551616 = 0 ∧ z / 18446744073709551616 = 0) := by omega
  generalize z % 18446744073709551616 = p at h ⊢
  generalize z / 18446744073709551616 = q at h ⊢
  have hp : (((p : Nat) : Int) == 0) = decide (p = 0) := by
    rw [Bool.eq_iff_iff, beq_iff_eq, decide_eq_true_eq]; omega
  have hq : (((q : Nat) : Int) == 0) = decide (q = 0) := by
    rw [Bool.eq_iff_iff, beq_iff_eq, decide_eq_true_eq]; omega
  rw [hp, hq]
  by_cases c1 : p = 0 <;> by_cases c2 : q = 0
  · have := h.2 ⟨c1, c2⟩
    simp [c1, c2, this]
  · have : z ≠ 0 := fun e => c2 (h.1 e).2
    simp [c1, c2, this]
  · have : z ≠ 0 := fun e => c1 (h.1 e).1
    simp [c1, c2, this]
  · have : z ≠ 0 := fun e => c1 (h.1 e).1
    simp [c1, c2, this]
/-- n columns from s on -/
def msk (s : Nat) : Nat → Nat
  | 0 => 0
  | n + 1 => msk s n ||| 2 ^ (s + n)
theorem msk_bit (s i : Nat) : ∀ n, (msk s n).testBit i = decide (s ≤ i ∧ i < s + n)
  | 0 => by
    have : ¬ (s ≤ i ∧ i < s + 0) := by omega
    simp [msk, this]
  | n + 1 => by
    rw [msk, Nat.testBit_or, msk_bit s i n, Nat.testBit_two_pow]
    rw [← Bool.decide_or]
    exact decide_eq_decide.2 (by omega)
theorem msk_lt (s : Nat) : ∀ n, s + n ≤ 128 → msk s n < B128
  | 0, _ => by show 0 < B128; decide
  | n + 1, h => Nat.or_lt_two_pow (n := 128) (msk_lt s n (by omega)) (Nat.pow_lt_pow_right (by omega) (by omega))
theorem pw64 {i : Nat} (h : i < 64) : IntKind.u64.wrap ((1 : Int) * (2 : Int) ^ min i IntKind.u64.bits) = ((2 ^ i : Nat) : Int) := by
  have e : min i IntKind.u64.bits = i := Nat.min_eq_left (by show i ≤ 64; omega)
  have e2 : (1 : Int) * (2 : Int) ^ i = ((2 ^ i : Nat) : Int) := by rw [Int.one_mul]; exact (Int.natCast_pow 2 i).symm
  rw [e, e2]
  exact u64_id (Nat.pow_lt_pow_right (n := 64) (by omega) h)
theorem pwi {i : Nat} (h : i < 62) : IntKind.i64.wrap ((1 : Int) * (2 : Int) ^ min i IntKind.i64.bits) = ((2 ^ i : Nat) : Int) := by
  have e : min i IntKind.i64.bits = i := Nat.min_eq_left (by show i ≤ 64; omega)
  have e2 : (1 : Int) * (2 : Int) ^ i = ((2 ^ i : Nat) : Int) := by rw [Int.one_mul]; exact (Int.natCast_pow 2 i).symm
  have : 2 ^ i < 2 ^ 62 := Nat.pow_lt_pow_right (by omega) h
  rw [e, e2]
  generalize 2 ^ i = p at *
  rw [i64_in] <;> omega
theorem or_lo {x i : Nat} (h : i < 64) : col (x ||| 2 ^ i) = (((x % 18446744073709551616 ||| 2 ^ i : Nat) : Int), ((x / 18446744073709551616 : Nat) : Int), (0 : Int), (0 : Int), (0 : Int), (0 : Int), (0 : Int), (0 : Int), (0 : Int), (0 : Int), (0 : Int), (0 : Int), (0 : Int), (0 : Int), (0 : Int), (0 : Int)) := by
  have h1 : 2 ^ i < 18446744073709551616 := Nat.pow_lt_pow_right (n := 64) (by omega) h
  unfold col
  rw [or_mod, or_div, Nat.mod_eq_of_lt h1, Nat.div_eq_of_lt h1, Nat.or_zero]
theorem or_hi {x i : Nat} (h : i < 64) : col (x ||| 2 ^ (64 + i)) = (((x % 18446744073709551616 : Nat) : Int), ((x / 18446744073709551616 ||| 2 ^ i : Nat) : Int), (0 : Int), (0 : Int), (0 : Int), (0 : Int), (0 : Int), (0 : Int), (0 : Int), (0 : Int), (0 : Int), (0 : Int), (0 : Int), (0 : Int), (0 : Int), (0 : Int)) := by
  have e : 2 ^ (64 + i) = 18446744073709551616 * 2 ^ i := Nat.pow_add 2 64 i
  unfold col
  rw [or_mod, or_div, e, Nat.mul_mod_right, Nat.mul_div_cancel_left _ (by omega), Nat.or_zero]
theorem b32_step (K : Nat) (a0 : El T32) (r0 : Int → El T65 → Option (El T65)) (w x e : Nat) (hx : x < B128) (ha : (0 : Int) ≤ a0.2) (he : IntKind.i64.wrap (a0.1 + IntKind.i64.wrap ((1 : Int) * (2 : Int) ^ min (Int.toNat a0.2) IntKind.i64.bits)) = (e : Int)) (hw : w < e) (h128 : e ≤ 128) :
    b32_0 K a0 r0 (w : Int) (col x) = r0 ((w + 1 : Nat) : Int) (col (x ||| 2 ^ w)) := by
  have h0 : decide ((0 : Int) ≤ a0.2) = true := decide_eq_true ha
  have h1 : decide ((w : Int) < (e : Int)) = true := decide_eq_true (by omega)
  have h2 : IntKind.i64.wrap ((w : Int) + (1 : Int)) = ((w + 1 : Nat) : Int) := by rw [i64_in] <;> omega
  have q1 : (w : Int).tdiv (64 : Int) = ((w / 64 : Nat) : Int) := rfl
  have q3 : (w : Int).tmod (64 : Int) = ((w % 64 : Nat) : Int) := rfl
  have h3 : decide ((0 : Int) ≤ (w : Int).tmod (64 : Int)) = true := decide_eq_true (by omega)
  have hd : IntKind.i64.wrap ((w : Int).tdiv (64 : Int)) = ((w / 64 : Nat) : Int) := by
    rw [q1, i64_in] <;> omega
  have hm : ((w : Int).tmod (64 : Int)).toNat = w % 64 := by omega
  simp only [b32_0, h0, he, h1, if_true, h2, h3, hd, hm, pw64 (Nat.mod_lt w (by omega : 0 < 64))]
  have hp : 2 ^ (w % 64) < 18446744073709551616 := Nat.pow_lt_pow_right (n := 64) (by omega) (Nat.mod_lt w (by omega))
  by_cases c : w < 64
  · have q : w / 64 = 0 := by omega
    have q2 : w % 64 = w := by omega
    rw [q2] at hp
    simp only [q, q2, if_true, or_lo c]
    simp only [col]
    rw [or64 (lo_lt x) hp]
  · have q : w / 64 = 1 := by omega
    obtain ⟨i, rfl⟩ : ∃ i, w = 64 + i := ⟨w - 64, by omega⟩
    have q2 : (64 + i) % 64 = i := by omega
    rw [q2] at hp
    have n1 : ¬ (((1 : Nat) : Int) = ((0 : Nat) : Int)) := by omega
    simp only [q, q2, n1, if_false, if_true, Nat.zero_add, or_hi (show i < 64 by omega)]
    simp only [col]
    rw [or64 (hi_lt hx) hp]
theorem L32_eq (K : Nat) (a0 : El T32) (s e : Nat) (ha : (0 : Int) ≤ a0.2) (he : IntKind.i64.wrap (a0.1 + IntKind.i64.wrap ((1 : Int) * (2 : Int) ^ min (Int.toNat a0.2) IntKind.i64.bits)) = (e : Int)) (h128 : e ≤ 128) :
    ∀ (n k d : Nat), s + k + d = e → d < n → L32_0 K a0 n ((s + k : Nat) : Int) (col (msk s k)) = some (col (msk s (k + d)))
  | 0, _, _, _, h => by omega
  | n + 1, k, 0, hs, h => by
    have h0 : decide ((0 : Int) ≤ a0.2) = true := decide_eq_true ha
    have h1 : decide (((s + k : Nat) : Int) < (e : Int)) = false := decide_eq_false (by omega)
    simp only [L32_0, b32_0, h0, he, h1, if_true, Bool.false_eq_true, if_false, Nat.add_zero]
  | n + 1, k, d + 1, hs, h => by
    rw [L32_0, b32_step K a0 _ (s + k) (msk s k) e (msk_lt s k (by omega)) ha he (by omega) h128]
    have := L32_eq K a0 s e ha he h128 n (k + 1) d (by omega) (by omega)
    rw [show k + (d + 1) = k + 1 + d by omega]
    exact this
/-- a block's columns -/
def bm (s o : Nat) : Nat := msk s (2 ^ o)
theorem F32_eq (K : Nat) (hK : 140 ≤ K) (s o : Nat) (h : s + 2 ^ o ≤ 128) (ho : o < 62) : F32 K ((s : Int), (o : Int)) = some (col (bm s o)) := by
  have hp : 0 < 2 ^ o := Nat.two_pow_pos o
  have he : IntKind.i64.wrap ((s : Int) + IntKind.i64.wrap ((1 : Int) * (2 : Int) ^ min (Int.toNat (o : Int)) IntKind.i64.bits)) = ((s + 2 ^ o : Nat) : Int) := by
    rw [Int.toNat_natCast, pwi ho, i64_in] <;> omega
  have := L32_eq K ((s : Int), (o : Int)) s (s + 2 ^ o) (Int.natCast_nonneg _) he h K 0 (2 ^ o) (by omega) (by omega)
  rw [Nat.zero_add, Nat.add_zero] at this
  have e0 : col (msk s 0) = ((0 : Int), (0 : Int), (0 : Int), (0 : Int), (0 : Int), (0 : Int), (0 : Int), (0 : Int), (0 : Int), (0 : Int), (0 : Int), (0 : Int), (0 : Int), (0 : Int), (0 : Int), (0 : Int)) := by simp [col, msk]
  rw [e0] at this
  unfold F32 G32 t32
  exact this
theorem bm_lt {s o : Nat} (h : s + 2 ^ o ≤ 128) : bm s o < B128 := msk_lt s _ h
theorem bm_bit (s o i : Nat) : (bm s o).testBit i = decide (s ≤ i ∧ i < s + 2 ^ o) := msk_bit s i _
/-- have two blocks a column in common? -/
theorem bm_meet (s o t p : Nat) : (bm s o &&& bm t p ≠ 0) ↔ s < t + 2 ^ p ∧ t < s + 2 ^ o := by
  have h1 := Nat.two_pow_pos o
  have h2 := Nat.two_pow_pos p
  constructor
  · intro h
    obtain ⟨i, hi⟩ := Nat.exists_testBit_of_ne_zero h
    rw [Nat.testBit_and, bm_bit, bm_bit] at hi
    simp only [Bool.and_eq_true, decide_eq_true_eq] at hi
    omega
  · intro h e
    have := congrArg (fun x => x.testBit (max s t)) e
    simp only [Nat.testBit_and, bm_bit, Nat.zero_testBit] at this
    rw [← Bool.decide_and, decide_eq_false_iff_not] at this
    omega
end Go.Proofs.YtlpalhgiiodjoaaE
