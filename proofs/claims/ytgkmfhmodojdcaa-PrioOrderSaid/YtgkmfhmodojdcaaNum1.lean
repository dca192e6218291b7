/- What the words of Go's math/bits come to: a product in two words, a quotient of two words by one. -/
import Derived.Test.YtgkmfhmodojdcaaNum0
import Derived.Test.YtgkmfhmodojdcaaPQx2
import Derived.Test.YtgkmfhmodojdcaaPQx3
namespace Go.Proofs.Ytgkmfhmodojdcaa.Num
open Go.RowKit Go.Proofs.Ytgkmfhmodojdcaa.PQ Go.Proofs.YtgkmfhmodojdcaaW.PrintWords Go.Proofs.YtgkmfhmodojdcaaW.PrintLast Go.Proofs.YtgkmfhmodojdcaaW.PrintMore

theorem mul64 {a b : Int} (ha : 0 ≤ a) (ha1 : a < 18446744073709551616) (hb : 0 ≤ b) (hb1 : b < 18446744073709551616) :
    bits_Mul64.f a b = some (a * b / 18446744073709551616, a * b % 18446744073709551616) := by
  have k1 := split_le (a := a / 4294967296) (c := b / 4294967296) (by omega) (by omega) (by omega) (by omega)
  have k2 := split_le (a := a / 4294967296) (c := b % 4294967296) (by omega) (by omega) (by omega) (by omega)
  have k3 := split_le (a := a % 4294967296) (c := b / 4294967296) (by omega) (by omega) (by omega) (by omega)
  have k4 := split_le (a := a % 4294967296) (c := b % 4294967296) (by omega) (by omega) (by omega) (by omega)
  have key := hi_lo (a / 4294967296) (a % 4294967296) (b / 4294967296) (b % 4294967296) (by omega) (by omega) (by omega) (by omega)
  rw [show a / 4294967296 * 4294967296 + a % 4294967296 = a by omega, show b / 4294967296 * 4294967296 + b % 4294967296 = b by omega] at key
  unfold bits_Mul64.f
  rw [and32 ha ha1, and32 hb hb1]
  generalize a / 4294967296 * (b / 4294967296) = p at *
  generalize a / 4294967296 * (b % 4294967296) = q at *
  generalize a % 4294967296 * (b / 4294967296) = r at *
  generalize a % 4294967296 * (b % 4294967296) = s at *
  have e1 : IntKind.u64.wrap q = q := w64_in k2.1 (by omega)
  have e2 : IntKind.u64.wrap s = s := w64_in k4.1 (by omega)
  have e3 : IntKind.u64.wrap p = p := w64_in k1.1 (by omega)
  have e4 : IntKind.u64.wrap r = r := w64_in k3.1 (by omega)
  rw [e1, e2, e3, e4, w64_in (x := q + s / 4294967296) (by omega) (by omega), and32 (x := q + s / 4294967296) (by omega) (by omega), w64_in (x := (q + s / 4294967296) % 4294967296 + r) (by omega) (by omega), w64_in (x := p + (q + s / 4294967296) / 4294967296) (by omega) (by omega),
    w64_in (x := p + (q + s / 4294967296) / 4294967296 + _) (by omega) (by omega), key, w64]

section
variable {y s yn1 yn0 u u1 u0 Q : Int} {r : Int × Int}

theorem l0_ev (hy : y = yn1 * 4294967296 + yn0) (hy0 : 0 ≤ yn0 ∧ yn0 < 4294967296) (hy1 : 2147483648 ≤ yn1 ∧ yn1 < 4294967296) (hu : 0 ≤ u ∧ u < y) (hu1 : 0 ≤ u1 ∧ u1 < 4294967296) (hQ : Q = (u * 4294967296 + u1) / y)
    (hr : Ev (fun k => bits_Div64.j2 k y s yn1 yn0 u u1 u0 Q) r) (n : Nat) : ∀ q rh : Int, rh = u - q * yn1 → 0 ≤ q → q ≤ 4294967297 → 0 ≤ rh → rh < 4294967296 → Q ≤ q → 4294967296 - rh ≤ n * 2147483648 →
      Ev (fun k => bits_Div64.l0 k y s yn1 yn0 u u1 u0 q rh) r := by
  induction n with
  | zero => intro q rh _ _ _ _ _ _ h; omega
  | succ n ih =>
    intro q rh hrh hq0 hq1 hr0 hr1 hQq hn
    subst hy
    have hQ0 : 0 ≤ Q := by rw [hQ]; exact Int.ediv_nonneg (by omega) (by omega)
    have key : ∀ b : Bool, (b = true ↔ (4294967296 ≤ q ∨ 4294967296 * rh + u1 < q * yn0)) → Ev (fun k => bits_Div64.j1 k (yn1 * 4294967296 + yn0) s yn1 yn0 u u1 u0 q rh b) r := by
      intro b hb
      refine Ev.step (fun k => by rw [bits_Div64.j1]) ?_
      cases b with
      | true =>
        have hbig := hb.1 rfl
        have hst := digit_step u u1 yn1 yn0 q rh hrh hy0.1 hy1.1 hu1 hu.2 hbig
        rw [← hQ] at hst
        have eq1 : IntKind.u64.wrap (q - 1) = q - 1 := w64_in (by omega) (by omega)
        have er : IntKind.u64.wrap (rh + yn1) = rh + yn1 := w64_in (by omega) (by omega)
        have hrh' : rh + yn1 = u - (q - 1) * yn1 := by rw [Int.sub_mul]; omega
        simp only [if_true, eq1, er]
        by_cases hb2 : rh + yn1 ≥ 4294967296
        · simp only [if_pos hb2]
          have hm := Int.mul_le_mul (show q - 1 ≤ 4294967296 by omega) (show yn0 ≤ 4294967295 by omega) hy0.1 (by omega)
          have hd := digit_done u u1 yn1 yn0 (q - 1) (rh + yn1) hrh' hy0.1 hy1.1 (by rw [← hQ]; exact hst) (by omega)
          rw [← hQ] at hd
          rw [← hd]
          exact hr
        · simp only [if_neg hb2]
          exact ih (q - 1) (rh + yn1) hrh' (by omega) (by omega) (by omega) (by omega) hst (by omega)
      | false =>
        have hsm : ¬ (4294967296 ≤ q ∨ 4294967296 * rh + u1 < q * yn0) := fun h => by simpa using hb.2 h
        have hd := digit_done u u1 yn1 yn0 q rh hrh hy0.1 hy1.1 (by rw [← hQ]; exact hQq) (by omega)
        rw [← hQ] at hd
        simp only [Bool.false_eq_true, if_false]
        rw [← hd]
        exact hr
    refine Ev.step (fun k => by rw [bits_Div64.l0]) ?_
    by_cases hb : q ≥ 4294967296
    · simp only [if_pos hb]
      exact key true ⟨fun _ => .inl hb, fun _ => rfl⟩
    · simp only [if_neg hb]
      have hm := Int.mul_le_mul (show q ≤ 4294967295 by omega) (show yn0 ≤ 4294967295 by omega) hy0.1 (by omega)
      have hm0 := Int.mul_nonneg hq0 hy0.1
      have e1 : IntKind.u64.wrap (q * yn0) = q * yn0 := w64_in hm0 (by omega)
      have e2 : IntKind.u64.wrap (4294967296 * rh) = 4294967296 * rh := w64_in (by omega) (by omega)
      have e3 : IntKind.u64.wrap (4294967296 * rh + u1) = 4294967296 * rh + u1 := w64_in (by omega) (by omega)
      rw [e1, e2, e3]
      exact key _ (by rw [decide_eq_true_iff]; omega)

theorem l1_ev {q1 : Int} (hs : 0 ≤ s) (hy : y = yn1 * 4294967296 + yn0) (hy0 : 0 ≤ yn0 ∧ yn0 < 4294967296) (hy1 : 2147483648 ≤ yn1 ∧ yn1 < 4294967296) (hu : 0 ≤ u ∧ u < y) (hu1 : 0 ≤ u1 ∧ u1 < 4294967296) (hQ : Q = (u * 4294967296 + u1) / y)
    (n : Nat) : ∀ q rh : Int, rh = u - q * yn1 → 0 ≤ q → q ≤ 4294967297 → 0 ≤ rh → rh < 4294967296 → Q ≤ q → 4294967296 - rh ≤ n * 2147483648 →
      Ev (fun k => bits_Div64.l1 k y s yn1 yn0 u1 q1 rh u q) (IntKind.u64.wrap (IntKind.u64.wrap (q1 * 4294967296) + Q), shr .u64 (IntKind.u64.wrap (IntKind.u64.wrap (IntKind.u64.wrap (u * 4294967296) + u1) - IntKind.u64.wrap (Q * y))) s) := by
  induction n with
  | zero => intro q rh _ _ _ _ _ _ h; omega
  | succ n ih =>
    intro q rh hrh hq0 hq1 hr0 hr1 hQq hn
    subst hy
    have hQ0 : 0 ≤ Q := by rw [hQ]; exact Int.ediv_nonneg (by omega) (by omega)
    have key : ∀ b : Bool, (b = true ↔ (4294967296 ≤ q ∨ 4294967296 * rh + u1 < q * yn0)) → Ev (fun k => bits_Div64.j4 k (yn1 * 4294967296 + yn0) s yn1 yn0 u1 q1 rh u q b) (IntKind.u64.wrap (IntKind.u64.wrap (q1 * 4294967296) + Q), shr .u64 (IntKind.u64.wrap (IntKind.u64.wrap (IntKind.u64.wrap (u * 4294967296) + u1) - IntKind.u64.wrap (Q * (yn1 * 4294967296 + yn0)))) s) := by
      intro b hb
      refine Ev.step (fun k => by rw [bits_Div64.j4]) ?_
      cases b with
      | true =>
        have hbig := hb.1 rfl
        have hst := digit_step u u1 yn1 yn0 q rh hrh hy0.1 hy1.1 hu1 hu.2 hbig
        rw [← hQ] at hst
        have eq1 : IntKind.u64.wrap (q - 1) = q - 1 := w64_in (by omega) (by omega)
        have er : IntKind.u64.wrap (rh + yn1) = rh + yn1 := w64_in (by omega) (by omega)
        have hrh' : rh + yn1 = u - (q - 1) * yn1 := by rw [Int.sub_mul]; omega
        simp only [if_true, eq1, er]
        by_cases hb2 : rh + yn1 ≥ 4294967296
        · simp only [if_pos hb2, if_pos hs]
          have hm := Int.mul_le_mul (show q - 1 ≤ 4294967296 by omega) (show yn0 ≤ 4294967295 by omega) hy0.1 (by omega)
          have hd := digit_done u u1 yn1 yn0 (q - 1) (rh + yn1) hrh' hy0.1 hy1.1 (by rw [← hQ]; exact hst) (by omega)
          rw [← hQ] at hd
          rw [← hd]
          exact Ev.now _
        · simp only [if_neg hb2]
          exact ih (q - 1) (rh + yn1) hrh' (by omega) (by omega) (by omega) (by omega) hst (by omega)
      | false =>
        have hsm : ¬ (4294967296 ≤ q ∨ 4294967296 * rh + u1 < q * yn0) := fun h => by simpa using hb.2 h
        have hd := digit_done u u1 yn1 yn0 q rh hrh hy0.1 hy1.1 (by rw [← hQ]; exact hQq) (by omega)
        rw [← hQ] at hd
        simp only [Bool.false_eq_true, if_false, if_pos hs]
        rw [← hd]
        exact Ev.now _
    refine Ev.step (fun k => by rw [bits_Div64.l1]) ?_
    by_cases hb : q ≥ 4294967296
    · simp only [if_pos hb]
      exact key true ⟨fun _ => .inl hb, fun _ => rfl⟩
    · simp only [if_neg hb]
      have hm := Int.mul_le_mul (show q ≤ 4294967295 by omega) (show yn0 ≤ 4294967295 by omega) hy0.1 (by omega)
      have hm0 := Int.mul_nonneg hq0 hy0.1
      have e1 : IntKind.u64.wrap (q * yn0) = q * yn0 := w64_in hm0 (by omega)
      have e2 : IntKind.u64.wrap (4294967296 * rh) = 4294967296 * rh := w64_in (by omega) (by omega)
      have e3 : IntKind.u64.wrap (4294967296 * rh + u1) = 4294967296 * rh + u1 := w64_in (by omega) (by omega)
      rw [e1, e2, e3]
      exact key _ (by rw [decide_eq_true_iff]; omega)
end

theorem left_wrap {u u1 y Q : Int} (hy : 0 < y ∧ y < 18446744073709551616) (hQ : Q = (u * 4294967296 + u1) / y) :
    IntKind.u64.wrap (IntKind.u64.wrap (IntKind.u64.wrap (u * 4294967296) + u1) - IntKind.u64.wrap (Q * y)) = (u * 4294967296 + u1) % y := by
  have h := Int.emod_def (u * 4294967296 + u1) y
  rw [← hQ, Int.mul_comm y] at h
  have h0 := Int.emod_nonneg (u * 4294967296 + u1) (show y ≠ 0 by omega)
  have h1 := Int.emod_lt_of_pos (u * 4294967296 + u1) hy.1
  simp only [w64]
  generalize Q * y = z at *
  generalize (u * 4294967296 + u1) % y = x at *
  omega

theorem j2_ev {y s yn1 yn0 u u1 u0 Q1 : Int} (hs : 0 ≤ s) (hy : y = yn1 * 4294967296 + yn0) (hy0 : 0 ≤ yn0 ∧ yn0 < 4294967296) (hy1 : 2147483648 ≤ yn1 ∧ yn1 < 4294967296) (_hu : 0 ≤ u ∧ u < y) (_hu1 : 0 ≤ u1 ∧ u1 < 4294967296) (hu0 : 0 ≤ u0 ∧ u0 < 4294967296) (hQ : Q1 = (u * 4294967296 + u1) / y) :
    Ev (fun k => bits_Div64.j2 k y s yn1 yn0 u u1 u0 Q1) (IntKind.u64.wrap (IntKind.u64.wrap (Q1 * 4294967296) + ((u * 4294967296 + u1) % y * 4294967296 + u0) / y), shr .u64 (((u * 4294967296 + u1) % y * 4294967296 + u0) % y) s) := by
  have hyp : 0 < y ∧ y < 18446744073709551616 := by omega
  have hl := left_wrap (u1 := u1) hyp hQ
  have hv0 := Int.emod_nonneg (u * 4294967296 + u1) (show y ≠ 0 by omega)
  have hv1 := Int.emod_lt_of_pos (u * 4294967296 + u1) hyp.1
  refine Ev.step (fun k => by rw [bits_Div64.j2]) ?_
  refine Ev.neg (show ¬ yn1 = 0 by omega) ?_
  rw [hl]
  generalize (u * 4294967296 + u1) % y = v at *
  have hf := digit_first v u0 yn1 yn0 hy0 hy1 (by omega) hu0
  rw [← hy] at hf
  have ed : Int.tdiv v yn1 = v / yn1 := Int.tdiv_eq_ediv_of_nonneg hv0
  have e1 : IntKind.u64.wrap (v / yn1) = v / yn1 := w64_in (by omega) (by omega)
  have hm := Int.emod_nonneg v (show yn1 ≠ 0 by omega)
  have hm1 := Int.emod_lt_of_pos v (show 0 < yn1 by omega)
  have hle : v / yn1 * yn1 ≤ v := Int.ediv_mul_le v (by omega)
  have hge : 0 ≤ v / yn1 * yn1 := Int.mul_nonneg hf.2.2.1 (by omega)
  have e2 : IntKind.u64.wrap (v / yn1 * yn1) = v / yn1 * yn1 := w64_in hge (by omega)
  have e3 : IntKind.u64.wrap (v - v / yn1 * yn1) = v - v / yn1 * yn1 := w64_in (by omega) (by omega)
  have e4 := left_wrap (u := v) (u1 := u0) hyp rfl
  rw [ed, e1, e2, e3, ← e4]
  exact l1_ev hs hy hy0 hy1 ⟨hv0, hv1⟩ hu0 rfl 2 _ _ rfl hf.2.2.1 hf.2.1 (by omega) (by omega) hf.1 (by omega)

def tab8 : ByteArray := (⟨#[0, 1, 2, 2, 3, 3, 3, 3, 4, 4, 4, 4, 4, 4, 4, 4, 5, 5, 5, 5, 5, 5, 5, 5, 5, 5, 5, 5, 5, 5, 5, 5, 6, 6, 6, 6, 6, 6, 6, 6, 6, 6, 6, 6, 6, 6, 6, 6, 6, 6, 6, 6, 6, 6, 6, 6, 6, 6, 6, 6, 6, 6, 6, 6, 7, 7, 7, 7, 7, 7, 7, 7, 7, 7, 7, 7, 7, 7, 7, 7, 7, 7, 7, 7, 7, 7, 7, 7, 7, 7, 7, 7, 7, 7, 7, 7, 7, 7, 7, 7, 7, 7, 7, 7, 7, 7, 7, 7, 7, 7, 7, 7, 7, 7, 7, 7, 7, 7, 7, 7, 7, 7, 7, 7, 7, 7, 7, 7, 8, 8, 8, 8, 8, 8, 8, 8, 8, 8, 8, 8, 8, 8, 8, 8, 8, 8, 8, 8, 8, 8, 8, 8, 8, 8, 8, 8, 8, 8, 8, 8, 8, 8, 8, 8, 8, 8, 8, 8, 8, 8, 8, 8, 8, 8, 8, 8, 8, 8, 8, 8, 8, 8, 8, 8, 8, 8, 8, 8, 8, 8, 8, 8, 8, 8, 8, 8, 8, 8, 8, 8, 8, 8, 8, 8, 8, 8, 8, 8, 8, 8, 8, 8, 8, 8, 8, 8, 8, 8, 8, 8, 8, 8, 8, 8, 8, 8, 8, 8, 8, 8, 8, 8, 8, 8, 8, 8, 8, 8, 8, 8, 8, 8, 8, 8, 8, 8, 8, 8, 8, 8, 8, 8, 8, 8, 8, 8]⟩ : ByteArray)
theorem tab8_bits : ∀ i : Nat, i < 256 → 1 ≤ i → 1 ≤ bt tab8 i ∧ bt tab8 i ≤ 8 ∧ 2 ^ ((bt tab8 i).toNat - 1) ≤ i ∧ i < 2 ^ (bt tab8 i).toNat := by decide +kernel

def Bits (x n : Int) : Prop := 1 ≤ n ∧ (2 : Int) ^ (n - 1).toNat ≤ x ∧ x < 2 ^ n.toNat
theorem pow2_pos (m : Nat) : (0 : Int) < 2 ^ m := Int.pow_pos (by omega)
theorem Bits.shift {x n : Int} (m : Nat) (h : Bits (x / 2 ^ m) n) : Bits x (n + m) := by
  obtain ⟨h1, h2, h3⟩ := h
  have hp := pow2_pos m
  refine ⟨by omega, ?_, ?_⟩
  · rw [show (n + m - 1).toNat = (n - 1).toNat + m by omega, Int.pow_add]
    exact (Int.le_ediv_iff_mul_le hp).1 h2
  · rw [show (n + m).toNat = n.toNat + m by omega, Int.pow_add]
    exact (Int.ediv_lt_iff_lt_mul hp).1 h3
theorem tab8_Bits {i : Int} (h1 : 1 ≤ i) (h2 : i < 256) : Bits i (bt tab8 i) ∧ bt tab8 i ≤ 8 := by
  obtain ⟨n, rfl⟩ := Int.eq_ofNat_of_zero_le (show 0 ≤ i by omega)
  obtain ⟨a, b, c, d⟩ := tab8_bits n (by omega) (by omega)
  refine ⟨⟨a, ?_, ?_⟩, b⟩
  · rw [show (bt tab8 (n : Int) - 1).toNat = (bt tab8 (n : Int)).toNat - 1 by omega]
    have := Int.ofNat_le.2 c
    rw [Int.natCast_pow] at this
    exact this
  · have := Int.ofNat_lt.2 d
    rw [Int.natCast_pow] at this
    exact this

theorem len_j0 {x n : Int} (hx : 1 ≤ x) (hx1 : x < 4294967296) (hn : 0 ≤ n ∧ n ≤ 32) : ∃ L, Ev (fun k => bits_Len64.j0 k x n) (n + L) ∧ Bits x L ∧ L ≤ 32 := by
  have step : ∀ (i m : Int) (j : Nat), m = j → x / 2 ^ j = i → 1 ≤ i → i < 256 → m ≤ 24 → (∀ k, bits_Len64.j0 (k + 1) x n = some (n + (bt tab8 i + m))) → ∃ L, Ev (fun k => bits_Len64.j0 k x n) (n + L) ∧ Bits x L ∧ L ≤ 32 := by
    intro i m j hm hi h1 h2 h3 he
    obtain ⟨hb, hb8⟩ := tab8_Bits h1 h2
    refine ⟨bt tab8 i + m, Ev.step he (Ev.now _), ?_, by omega⟩
    rw [hm]
    exact Bits.shift j (by rw [hi]; exact hb)
  have hb : ∀ i : Int, 1 ≤ i → i < 256 → 1 ≤ bt tab8 i ∧ bt tab8 i ≤ 8 := fun i h1 h2 => ⟨(tab8_Bits h1 h2).1.1, (tab8_Bits h1 h2).2⟩
  by_cases c1 : x ≥ 65536
  · by_cases c2 : x / 65536 ≥ 256
    · refine step (x / 65536 / 256) 24 24 rfl ?_ (by omega) (by omega) (by omega) (fun k => ?_)
      · rw [show (2 : Int) ^ 24 = 65536 * 256 by decide]; omega
      · rw [bits_Len64.j0, if_pos c1, if_pos c2, show x / 65536 / 256 % 256 = x / 65536 / 256 by omega, if_pos (by omega), if_pos (by omega)]
        have := hb (x / 65536 / 256) (by omega) (by omega)
        change some (wrap64 (wrap64 (wrap64 (n + 16) + 8) + wrap64 (bt tab8 (x / 65536 / 256)))) = _
        rw [i64_in (x := n + 16) (by omega) (by omega), i64_in (x := n + 16 + 8) (by omega) (by omega), i64_in (x := bt tab8 _) (by omega) (by omega), i64_in (by omega) (by omega)]
        congr 1; omega
    · refine step (x / 65536) 16 16 rfl (by rw [show (2 : Int) ^ 16 = 65536 by decide]) (by omega) (by omega) (by omega) (fun k => ?_)
      rw [bits_Len64.j0, if_pos c1, if_neg c2, show x / 65536 % 256 = x / 65536 by omega, if_pos (by omega), if_pos (by omega)]
      have := hb (x / 65536) (by omega) (by omega)
      change some (wrap64 (wrap64 (n + 16) + wrap64 (bt tab8 (x / 65536)))) = _
      rw [i64_in (x := n + 16) (by omega) (by omega), i64_in (x := bt tab8 _) (by omega) (by omega), i64_in (by omega) (by omega)]
      congr 1; omega
  · by_cases c2 : x ≥ 256
    · refine step (x / 256) 8 8 rfl (by rw [show (2 : Int) ^ 8 = 256 by decide]) (by omega) (by omega) (by omega) (fun k => ?_)
      rw [bits_Len64.j0, if_neg c1, if_pos c2, show x / 256 % 256 = x / 256 by omega, if_pos (by omega), if_pos (by omega)]
      have := hb (x / 256) (by omega) (by omega)
      change some (wrap64 (wrap64 (n + 8) + wrap64 (bt tab8 (x / 256)))) = _
      rw [i64_in (x := n + 8) (by omega) (by omega), i64_in (x := bt tab8 _) (by omega) (by omega), i64_in (by omega) (by omega)]
      congr 1; omega
    · refine step x 0 0 rfl (by simp) (by omega) (by omega) (by omega) (fun k => ?_)
      rw [bits_Len64.j0, if_neg c1, if_neg c2, show x % 256 = x by omega, if_pos (by omega), if_pos (by omega)]
      have := hb x (by omega) (by omega)
      have e0 : ∀ z, z = bt tab8 x → some (wrap64 (n + wrap64 z)) = some (n + (bt tab8 x + 0)) := by
        intro z hz
        rw [hz, i64_in (x := bt tab8 _) (by omega) (by omega), i64_in (by omega) (by omega), Int.add_zero]
      exact e0 _ rfl

theorem len_ev {x : Int} (hx : 1 ≤ x) (hx1 : x < 18446744073709551616) : ∃ L, Ev (fun k => bits_Len64.f k x) L ∧ Bits x L ∧ L ≤ 64 := by
  by_cases c : x ≥ 4294967296
  · obtain ⟨L, h1, h2, h3⟩ := len_j0 (x := x / 4294967296) (n := 32) (by omega) (by omega) (by omega)
    refine ⟨32 + L, ?_, ?_, by omega⟩
    · refine Ev.congr (fun k => by rw [bits_Len64.f, if_pos c]) h1
    · rw [Int.add_comm]
      exact Bits.shift 32 (by rw [show (2 : Int) ^ 32 = 4294967296 by decide]; exact h2)
  · obtain ⟨L, h1, h2, h3⟩ := len_j0 (x := x) (n := 0) hx (by omega) (by omega)
    rw [Int.zero_add] at h1
    exact ⟨L, Ev.congr (fun k => by rw [bits_Len64.f, if_neg c]) h1, h2, by omega⟩

theorem shl_in {x n : Int} (h : n ≤ 64) : shl .u64 x n = IntKind.u64.wrap (x * 2 ^ n.toNat) := by
  unfold shl
  rw [show IntKind.u64.bits = 64 from rfl, Nat.min_eq_left (by omega)]
theorem shr_in {x n : Int} (h : n ≤ 64) : shr .u64 x n = x / 2 ^ n.toNat := by
  unfold shr
  rw [show IntKind.u64.bits = 64 from rfl, Nat.min_eq_left (by omega)]

theorem div64 {hi lo y : Int} (hhi : 0 ≤ hi) (hlt : hi < y) (hlo : 0 ≤ lo) (hlo1 : lo < 18446744073709551616) (hy1 : y < 18446744073709551616) :
    Ev (fun k => bits_Div64.f k hi lo y) ((hi * 18446744073709551616 + lo) / y, (hi * 18446744073709551616 + lo) % y) := by
  unfold bits_Div64.f
  refine Ev.neg (by omega) (Ev.neg (by omega) ?_)
  by_cases h0 : hi = 0
  · subst h0
    refine Ev.pos rfl ?_
    rw [Int.tdiv_eq_ediv_of_nonneg hlo, Int.tmod_eq_emod_of_nonneg hlo, w64_in (Int.ediv_nonneg hlo (by omega)) (Int.lt_of_le_of_lt (Int.ediv_le_self _ hlo) hlo1), Int.zero_mul, Int.zero_add]
    exact Ev.now _
  refine Ev.neg h0 ?_
  obtain ⟨L, hL, ⟨hb0, hb1, hb2⟩, hb3⟩ := len_ev (x := y) (by omega) hy1
  have hz : Ev (fun k => bits_LeadingZeros64.f k y) (64 - L) := by
    unfold bits_LeadingZeros64.f
    refine Ev.bind hL ?_
    rw [i64_in (by omega) (by omega)]
    exact Ev.now _
  refine Ev.bind hz ?_
  have es : IntKind.u64.wrap (64 - L) = 64 - L := w64_in (by omega) (by omega)
  have es2 : IntKind.u64.wrap (64 - (64 - L)) = L := by rw [show 64 - (64 - L) = L by omega]; exact w64_in (by omega) (by omega)
  simp only [es, es2]
  refine Ev.pos (by omega) (Ev.pos (by omega) ?_)
  rw [shl_in (x := y) (by omega), shl_in (x := hi) (by omega), shl_in (x := lo) (by omega), shr_in (x := lo) (by omega)]
  have hP := pow2_pos (64 - L).toNat
  have hR := pow2_pos L.toNat
  have hPR : (2 : Int) ^ (64 - L).toNat * 2 ^ L.toNat = 18446744073709551616 := by
    rw [← Int.pow_add, show (64 - L).toNat + L.toNat = 64 by omega]; decide
  have hPR1 : (2 : Int) ^ (64 - L).toNat * 2 ^ (L - 1).toNat = 9223372036854775808 := by
    rw [← Int.pow_add, show (64 - L).toNat + (L - 1).toNat = 63 by omega]; decide
  have hA := Int.ediv_nonneg hlo (show 0 ≤ (2 : Int) ^ L.toNat by omega)
  have hA1 : lo / 2 ^ L.toNat < 2 ^ (64 - L).toNat := (Int.ediv_lt_iff_lt_mul hR).2 (by rw [hPR]; exact hlo1)
  have hC := Int.emod_nonneg lo (show (2 : Int) ^ L.toNat ≠ 0 by omega)
  have hC1 := Int.emod_lt_of_pos lo hR
  have hAC : lo = lo / 2 ^ L.toNat * 2 ^ L.toNat + lo % 2 ^ L.toNat := by rw [Int.mul_comm]; exact (Int.mul_ediv_add_emod lo _).symm
  have hor : ∀ a, 0 ≤ a → a < 2 ^ (64 - L).toNat → hi * 2 ^ (64 - L).toNat + a < 18446744073709551616 → Go.bits .or .u64 (hi * 2 ^ (64 - L).toNat) a = hi * 2 ^ (64 - L).toNat + a := fun a h1 h2 h3 => shift_or hi a _ hhi ⟨h1, h2⟩ h3
  generalize hPd : (2 : Int) ^ (64 - L).toNat = P at *
  generalize (2 : Int) ^ (L - 1).toNat = R1 at *
  generalize (2 : Int) ^ L.toNat = R at *
  generalize lo / R = A at *
  generalize lo % R = C at *
  have hyP : y * P < 18446744073709551616 := by
    have := Int.mul_lt_mul_of_pos_left hb2 hP
    rw [Int.mul_comm] at this; omega
  have hyP1 : 9223372036854775808 ≤ y * P := by
    have := Int.mul_le_mul_of_nonneg_left hb1 (show 0 ≤ P by omega)
    rw [hPR1, Int.mul_comm] at this; exact this
  have hhP : hi * P + P ≤ y * P := by
    have := Int.mul_le_mul_of_nonneg_right (show hi + 1 ≤ y by omega) (show 0 ≤ P by omega)
    rw [Int.add_mul] at this; omega
  have hhP0 : 0 ≤ hi * P := Int.mul_nonneg hhi (by omega)
  have hCP0 : 0 ≤ C * P := Int.mul_nonneg hC (by omega)
  have hCP : C * P < 18446744073709551616 := by
    have := Int.mul_lt_mul_of_pos_right hC1 hP
    rw [Int.mul_comm R P] at this; omega
  have e1 : IntKind.u64.wrap (y * P) = y * P := w64_in (by omega) hyP
  have e2 : IntKind.u64.wrap (hi * P) = hi * P := w64_in hhP0 (by omega)
  have e3 : IntKind.u64.wrap (lo * P) = C * P := by
    have : lo * P = A * 18446744073709551616 + C * P := by
      rw [hAC, Int.add_mul, Int.mul_assoc, Int.mul_comm R P, hPR]
    rw [w64]; omega
  rw [e1, e2, e3, hor A hA hA1 (by omega), and32 (x := y * P) (by omega) hyP, and32 (x := C * P) hCP0 hCP]
  refine Ev.neg (by omega) ?_
  have hu : 0 ≤ hi * P + A ∧ hi * P + A < y * P := by omega
  have huE : ∃ u, u = hi * P + A := ⟨_, rfl⟩
  obtain ⟨u, hue⟩ := huE
  rw [← hue] at hu ⊢
  obtain ⟨Y, hY⟩ : ∃ Y, Y = y * P := ⟨_, rfl⟩
  obtain ⟨D, hD⟩ : ∃ D, D = C * P := ⟨_, rfl⟩
  rw [← hY] at hu hyP hyP1 ⊢
  rw [← hD] at hCP0 hCP ⊢
  have hdig := digit_first u (D / 4294967296) (Y / 4294967296) (Y % 4294967296) (by omega) (by omega) (by omega) (by omega)
  have hYY : Y / 4294967296 * 4294967296 + Y % 4294967296 = Y := by omega
  rw [hYY] at hdig
  have ed : Int.tdiv u (Y / 4294967296) = u / (Y / 4294967296) := Int.tdiv_eq_ediv_of_nonneg hu.1
  have f1 : IntKind.u64.wrap (u / (Y / 4294967296)) = u / (Y / 4294967296) := w64_in (by omega) (by omega)
  have hm := Int.emod_nonneg u (show Y / 4294967296 ≠ 0 by omega)
  have hm1 := Int.emod_lt_of_pos u (show 0 < Y / 4294967296 by omega)
  have hle : u / (Y / 4294967296) * (Y / 4294967296) ≤ u := Int.ediv_mul_le u (by omega)
  have hge : 0 ≤ u / (Y / 4294967296) * (Y / 4294967296) := Int.mul_nonneg hdig.2.2.1 (by omega)
  have f2 : IntKind.u64.wrap (u / (Y / 4294967296) * (Y / 4294967296)) = u / (Y / 4294967296) * (Y / 4294967296) := w64_in hge (by omega)
  have f3 : IntKind.u64.wrap (u - u / (Y / 4294967296) * (Y / 4294967296)) = u - u / (Y / 4294967296) * (Y / 4294967296) := w64_in (by omega) (by omega)
  rw [ed, f1, f2, f3]
  have hj := j2_ev (s := 64 - L) (y := Y) (yn1 := Y / 4294967296) (yn0 := Y % 4294967296) (u := u) (u1 := D / 4294967296) (u0 := D % 4294967296) (Q1 := (u * 4294967296 + D / 4294967296) / Y) (by omega) hYY.symm (by omega) (by omega) hu (by omega) (by omega) rfl
  have hg1 := Int.mul_ediv_add_emod (u * 4294967296 + D / 4294967296) Y
  have hv0 := Int.emod_nonneg (u * 4294967296 + D / 4294967296) (show Y ≠ 0 by omega)
  have hv1 := Int.emod_lt_of_pos (u * 4294967296 + D / 4294967296) (show 0 < Y by omega)
  have hq1 : (u * 4294967296 + D / 4294967296) / Y < 4294967296 := (Int.ediv_lt_iff_lt_mul (by omega)).2 (by omega)
  have hq10 : 0 ≤ (u * 4294967296 + D / 4294967296) / Y := Int.ediv_nonneg (by omega) (by omega)
  have hg0 := Int.mul_ediv_add_emod ((u * 4294967296 + D / 4294967296) % Y * 4294967296 + D % 4294967296) Y
  have hz0 := Int.emod_nonneg ((u * 4294967296 + D / 4294967296) % Y * 4294967296 + D % 4294967296) (show Y ≠ 0 by omega)
  have hz1 := Int.emod_lt_of_pos ((u * 4294967296 + D / 4294967296) % Y * 4294967296 + D % 4294967296) (show 0 < Y by omega)
  have hq0 : ((u * 4294967296 + D / 4294967296) % Y * 4294967296 + D % 4294967296) / Y < 4294967296 := (Int.ediv_lt_iff_lt_mul (by omega)).2 (by omega)
  have hq00 : 0 ≤ ((u * 4294967296 + D / 4294967296) % Y * 4294967296 + D % 4294967296) / Y := Int.ediv_nonneg (by omega) (by omega)
  have ht := two_digits hi lo y P R A C u (D / 4294967296) (D % 4294967296) ((u * 4294967296 + D / 4294967296) / Y) ((u * 4294967296 + D / 4294967296) % Y) (((u * 4294967296 + D / 4294967296) % Y * 4294967296 + D % 4294967296) / Y) (((u * 4294967296 + D / 4294967296) % Y * 4294967296 + D % 4294967296) % Y)
    hPR hP hAC (by omega) hue (by omega) (by rw [← hY, Int.mul_comm _ Y]; omega) (by rw [← hY, Int.mul_comm _ Y]; omega) (by rw [← hY]; omega)
  rw [← ht.1, ← ht.2]
  refine l0_ev hYY.symm (by omega) (by omega) hu (by omega) rfl ?_ 2 _ _ rfl hdig.2.2.1 hdig.2.1 (by omega) (by omega) hdig.1 (by omega)
  rw [w64_in (x := (u * 4294967296 + D / 4294967296) / Y * 4294967296) (by omega) (by omega), w64_in (by omega) (by omega), shr_in (by omega), hPd] at hj
  exact hj

end Go.Proofs.Ytgkmfhmodojdcaa.Num
