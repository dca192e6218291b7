/- Plain arithmetic of 64 and 128 bits: products in two words, quotients by two digits, long division; no program in sight. -/
import Derived.Laws.BitsLemmas
import Derived.Laws.Bits64
import Derived.Laws.BitsAllLaws
import Derived.Test.YtgkmfhmodojdcaaOldW
namespace Go.Proofs.Ytgkmfhmodojdcaa.Num
open Go.RowKit Go.Proofs.YtgkmfhmodojdcaaW.PrintWords Go.Proofs.YtgkmfhmodojdcaaW.PrintLast Go.Proofs.YtgkmfhmodojdcaaW.PrintMore

theorem Ev.pos {α : Type} {c : Prop} [Decidable c] {a b : Nat → Option α} {r : α} (h : c) (k : Ev a r) : Ev (fun n => if c then a n else b n) r := by simp only [if_pos h]; exact k
theorem Ev.neg {α : Type} {c : Prop} [Decidable c] {a b : Nat → Option α} {r : α} (h : ¬ c) (k : Ev b r) : Ev (fun n => if c then a n else b n) r := by simp only [if_neg h]; exact k
theorem Ev.const {α : Type} {a : Option α} {r : α} (h : a = some r) : Ev (fun _ => a) r := by rw [h]; exact Ev.now r

theorem w64 (x : Int) : IntKind.u64.wrap x = x % 18446744073709551616 := IntKind.wrap_u64 x
theorem w64_in {x : Int} (h0 : 0 ≤ x) (h1 : x < 18446744073709551616) : IntKind.u64.wrap x = x := by rw [w64]; omega
theorem i64_in {x : Int} (h0 : -9223372036854775808 ≤ x) (h1 : x ≤ 9223372036854775807) : wrap64 x = x := by unfold wrap64; omega
theorem and32 {x : Int} (h0 : 0 ≤ x) (h1 : x < 18446744073709551616) : Go.bits .and .u64 x 4294967295 = x % 4294967296 := by
  rw [u64_and x 4294967295 h0 h1 (by omega) (by omega)]
  obtain ⟨n, rfl⟩ := Int.eq_ofNat_of_zero_le h0
  have e : (4294967295 : Int).toNat = 2 ^ 32 - 1 := by decide
  rw [e, Int.toNat_natCast, Nat.and_two_pow_sub_one_eq_mod]
  omega

theorem split_le {a c : Int} (h0 : 0 ≤ a) (h1 : a < 4294967296) (h2 : 0 ≤ c) (h3 : c < 4294967296) : 0 ≤ a * c ∧ a * c ≤ 18446744065119617025 := by
  refine ⟨Int.mul_nonneg h0 h2, ?_⟩
  have h := Int.mul_le_mul (show a ≤ 4294967295 by omega) (show c ≤ 4294967295 by omega) h2 (by omega)
  omega

theorem hi_lo (a1 a0 b1 b0 : Int) (ha1 : 0 ≤ a1 ∧ a1 < 4294967296) (ha0 : 0 ≤ a0 ∧ a0 < 4294967296) (hb1 : 0 ≤ b1 ∧ b1 < 4294967296) (hb0 : 0 ≤ b0 ∧ b0 < 4294967296) :
    a1 * b1 + (a1 * b0 + a0 * b0 / 4294967296) / 4294967296 + ((a1 * b0 + a0 * b0 / 4294967296) % 4294967296 + a0 * b1) / 4294967296 = (a1 * 4294967296 + a0) * (b1 * 4294967296 + b0) / 18446744073709551616 := by
  have e : (a1 * 4294967296 + a0) * (b1 * 4294967296 + b0) = a1 * b1 * 18446744073709551616 + (a1 * b0 + a0 * b1) * 4294967296 + a0 * b0 := by
    simp only [Int.add_mul, Int.mul_add]
    have e1 : a1 * 4294967296 * (b1 * 4294967296) = a1 * b1 * 18446744073709551616 := by
      rw [Int.mul_assoc, ← Int.mul_assoc 4294967296 b1, Int.mul_comm 4294967296 b1, Int.mul_assoc b1, ← Int.mul_assoc a1]; rfl
    have e2 : a1 * 4294967296 * b0 = a1 * b0 * 4294967296 := by rw [Int.mul_assoc, Int.mul_comm 4294967296 b0, ← Int.mul_assoc]
    have e3 : a0 * (b1 * 4294967296) = a0 * b1 * 4294967296 := by rw [← Int.mul_assoc]
    rw [e1, e2, e3]
    omega
  rw [e]
  have := split_le ha1.1 ha1.2 hb1.1 hb1.2
  have := split_le ha1.1 ha1.2 hb0.1 hb0.2
  have := split_le ha0.1 ha0.2 hb1.1 hb1.2
  have := split_le ha0.1 ha0.2 hb0.1 hb0.2
  generalize a1 * b1 = p at *
  generalize a1 * b0 = q at *
  generalize a0 * b1 = r at *
  generalize a0 * b0 = s at *
  omega

theorem mul_bound {a b m : Int} (h0 : 0 ≤ a) (h1 : a < m) (h2 : 0 ≤ b) (h3 : b < m) : 0 ≤ a * b ∧ a * b < m * m := by
  refine ⟨Int.mul_nonneg h0 h2, ?_⟩
  rcases Int.lt_or_le 0 a with h | h
  · have x1 := Int.mul_lt_mul_of_pos_left h3 h
    have x2 := Int.mul_lt_mul_of_pos_right h1 (show 0 < m by omega)
    omega
  · have : a = 0 := by omega
    subst this
    rw [Int.zero_mul]
    exact Int.mul_pos (by omega) (by omega)

theorem digit_step (u u1 yn1 yn0 q r : Int) (hr : r = u - q * yn1) (hy0 : 0 ≤ yn0) (hy1 : 2147483648 ≤ yn1) (hu1 : 0 ≤ u1 ∧ u1 < 4294967296) (hlt : u < yn1 * 4294967296 + yn0)
    (hbig : 4294967296 ≤ q ∨ 4294967296 * r + u1 < q * yn0) : (u * 4294967296 + u1) / (yn1 * 4294967296 + yn0) ≤ q - 1 := by
  have hpos : 0 < yn1 * 4294967296 + yn0 := by omega
  have key : u * 4294967296 + u1 < q * (yn1 * 4294967296 + yn0) := by
    rcases hbig with h | h
    · have h1 : 4294967296 * (yn1 * 4294967296 + yn0) ≤ q * (yn1 * 4294967296 + yn0) := Int.mul_le_mul_of_nonneg_right h (by omega)
      omega
    · rw [Int.mul_add, ← Int.mul_assoc]
      generalize q * yn1 = z at *
      generalize q * yn0 = z0 at *
      omega
  have := Int.ediv_lt_of_lt_mul hpos key
  omega

theorem digit_done (u u1 yn1 yn0 q r : Int) (hr : r = u - q * yn1) (hy0 : 0 ≤ yn0) (hy1 : 2147483648 ≤ yn1)
    (hge : (u * 4294967296 + u1) / (yn1 * 4294967296 + yn0) ≤ q) (hfit : q * yn0 ≤ 4294967296 * r + u1) : (u * 4294967296 + u1) / (yn1 * 4294967296 + yn0) = q := by
  have hpos : 0 < yn1 * 4294967296 + yn0 := by omega
  have key : q * (yn1 * 4294967296 + yn0) ≤ u * 4294967296 + u1 := by
    rw [Int.mul_add, ← Int.mul_assoc]
    generalize q * yn1 = z at *
    generalize q * yn0 = z0 at *
    omega
  have := (Int.le_ediv_iff_mul_le hpos).2 key
  omega

theorem digit_first (u u1 yn1 yn0 : Int) (hy0 : 0 ≤ yn0 ∧ yn0 < 4294967296) (hy1 : 2147483648 ≤ yn1 ∧ yn1 < 4294967296) (hu : 0 ≤ u ∧ u < yn1 * 4294967296 + yn0) (hu1 : 0 ≤ u1 ∧ u1 < 4294967296) :
    (u * 4294967296 + u1) / (yn1 * 4294967296 + yn0) ≤ u / yn1 ∧ u / yn1 ≤ 4294967297 ∧ 0 ≤ u / yn1 ∧ u - u / yn1 * yn1 = u % yn1 := by
  have hpos : 0 < yn1 * 4294967296 + yn0 := by omega
  have h1 := Int.ediv_mul_le (u * 4294967296 + u1) (show yn1 * 4294967296 + yn0 ≠ 0 by omega)
  have h0 : 0 ≤ (u * 4294967296 + u1) / (yn1 * 4294967296 + yn0) := Int.ediv_nonneg (by omega) (by omega)
  generalize (u * 4294967296 + u1) / (yn1 * 4294967296 + yn0) = Q at *
  refine ⟨?_, ?_, Int.ediv_nonneg hu.1 (by omega), ?_⟩
  · rw [Int.le_ediv_iff_mul_le (by omega)]
    rw [Int.mul_add, ← Int.mul_assoc] at h1
    have h2 := Int.mul_nonneg h0 hy0.1
    generalize Q * yn1 = z at *
    generalize Q * yn0 = z0 at *
    omega
  · have := Int.ediv_lt_of_lt_mul (show 0 < yn1 by omega) (show u < 4294967298 * yn1 by omega)
    omega
  · have := Int.emod_def u yn1
    rw [Int.mul_comm yn1] at this
    omega

theorem two_digits (hi lo y P R A C u u1 u0 Q1 v Q0 z : Int) (hPR : P * R = 18446744073709551616) (hP : 0 < P) (hlo : lo = A * R + C) (hy : 0 < y) (hu : u = hi * P + A) (hn : C * P = u1 * 4294967296 + u0)
    (h1 : u * 4294967296 + u1 = Q1 * (y * P) + v) (h0 : v * 4294967296 + u0 = Q0 * (y * P) + z) (hz : 0 ≤ z ∧ z < y * P) :
    Q1 * 4294967296 + Q0 = (hi * 18446744073709551616 + lo) / y ∧ z / P = (hi * 18446744073709551616 + lo) % y := by
  have hN : (hi * 18446744073709551616 + lo) * P = (Q1 * 4294967296 + Q0) * y * P + z := by
    have e1 : (hi * 18446744073709551616 + lo) * P = hi * P * 18446744073709551616 + A * (P * R) + C * P := by
      rw [hlo, Int.add_mul, Int.add_mul, Int.mul_assoc A, Int.mul_comm R P, Int.mul_assoc hi, Int.mul_comm 18446744073709551616 P, ← Int.mul_assoc hi, Int.add_assoc]
    have e2 : (Q1 * 4294967296 + Q0) * y * P = Q1 * (y * P) * 4294967296 + Q0 * (y * P) := by
      rw [Int.mul_assoc, Int.add_mul, Int.mul_assoc, Int.mul_comm 4294967296 (y * P), ← Int.mul_assoc Q1]
    rw [e1, hPR, hn, e2]
    subst hu
    generalize hi * P = a at *
    generalize Q1 * (y * P) = b at *
    generalize Q0 * (y * P) = c at *
    omega
  generalize hi * 18446744073709551616 + lo = N at *
  generalize Q1 * 4294967296 + Q0 = q at *
  have ht : z = (N - q * y) * P := by rw [Int.sub_mul]; omega
  have t0 : 0 ≤ N - q * y := by
    rcases Int.lt_or_le (N - q * y) 0 with h | h
    · have := Int.mul_lt_mul_of_pos_right h hP
      omega
    · exact h
  have t1 : N - q * y < y := by
    rcases Int.lt_or_le (N - q * y) y with h | h
    · exact h
    · have := Int.mul_le_mul_of_nonneg_right h (show 0 ≤ P by omega)
      omega
  have hq : N / y = q := by
    have e : N = (N - q * y) + q * y := by omega
    rw [e, Int.add_mul_ediv_right _ _ (by omega), Int.ediv_eq_zero_of_lt t0 t1]
    omega
  have hm : N % y = N - q * y := by rw [Int.emod_def, hq, Int.mul_comm]
  exact ⟨hq.symm, by rw [hm, ht, Int.mul_ediv_cancel _ (by omega)]⟩

theorem shift_or (h a : Int) (s : Nat) (hh : 0 ≤ h) (ha : 0 ≤ a ∧ a < 2 ^ s) (hb : h * 2 ^ s + a < 18446744073709551616) : Go.bits .or .u64 (h * 2 ^ s) a = h * 2 ^ s + a := by
  obtain ⟨H, rfl⟩ := Int.eq_ofNat_of_zero_le hh
  obtain ⟨A, rfl⟩ := Int.eq_ofNat_of_zero_le ha.1
  have hp : ((H : Int) * 2 ^ s) = ((H * 2 ^ s : Nat) : Int) := by rw [Int.natCast_mul, Int.natCast_pow]; rfl
  have hp2 : ((2 ^ s : Nat) : Int) = 2 ^ s := by rw [Int.natCast_pow]; rfl
  have hA : A < 2 ^ s := by have := ha.2; rw [← hp2] at this; omega
  rw [hp] at hb ⊢
  rw [u64_or_nat _ _ (by omega) (by omega), ← Nat.shiftLeft_eq, ← Nat.shiftLeft_add_eq_or_of_lt hA]
  omega

end Go.Proofs.Ytgkmfhmodojdcaa.Num
