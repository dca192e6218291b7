/- A product divided: the program's and the document's come to one and the same. -/
import Derived.Test.YtgkmfhmodojdcaaNum1
import Derived.Test.YtgkmfhmodojdcaaPQx4
import Derived.Test.YtgkmfhmodojdcaaPQx5
import Derived.Test.YtgkmfhmodojdcaaPQx6
import Derived.Test.YtgkmfhmodojdcaaPQx7
import Derived.Test.YtgkmfhmodojdcaaPQx8
namespace Go.Proofs.Ytgkmfhmodojdcaa.Num
open Go.RowKit Go.Proofs.Ytgkmfhmodojdcaa.PQ Go.Proofs.YtgkmfhmodojdcaaW.PrintWords Go.Proofs.YtgkmfhmodojdcaaW.PrintLast Go.Proofs.YtgkmfhmodojdcaaW.PrintMore

def mulDiv (a b c : Int) : Int × Int := if a < 0 ∨ b < 0 ∨ c < 1 then (0, 2) else if a * b / c ≤ 9223372036854775807 then (a * b / c, 0) else (0, 10)

theorem num_muldiv {a b c : Int} (ha : a ≤ 9223372036854775807) (hb : b ≤ 9223372036854775807) (hc : c ≤ 9223372036854775807) : Ev (fun k => num_MulDiv.f k a b c) (mulDiv a b c) := by
  have key : ∀ f : Bool, (f = true ↔ (a < 0 ∨ b < 0 ∨ c < 1)) → Ev (fun k => num_MulDiv.j0 k a b c f) (mulDiv a b c) := by
    intro f hf
    refine Ev.step (fun k => by rw [num_MulDiv.j0]) ?_
    unfold mulDiv
    cases f with
    | true =>
      rw [if_pos (hf.1 rfl)]
      exact Ev.pos rfl (Ev.now _)
    | false =>
      have hn : ¬ (a < 0 ∨ b < 0 ∨ c < 1) := fun h => by simpa using hf.2 h
      rw [if_neg hn]
      refine Ev.neg (by simp) ?_
      rw [w64_in (x := a) (by omega) (by omega), w64_in (x := b) (by omega) (by omega), w64_in (x := c) (by omega) (by omega), mul64 (by omega) (by omega) (by omega) (by omega)]
      simp only [Option.bind_some]
      have hp0 : 0 ≤ a * b := Int.mul_nonneg (by omega) (by omega)
      obtain ⟨p, hp⟩ : ∃ p, p = a * b := ⟨_, rfl⟩
      rw [← hp] at hp0 ⊢
      by_cases hbig : p / 18446744073709551616 ≥ c
      · refine Ev.pos hbig ?_
        have : ¬ p / c ≤ 9223372036854775807 := by
          have h1 : c * 18446744073709551616 ≤ p := by
            have := (Int.le_ediv_iff_mul_le (show (0 : Int) < 18446744073709551616 by omega)).1 hbig
            omega
          have h2 : 18446744073709551616 ≤ p / c := (Int.le_ediv_iff_mul_le (by omega)).2 (by rw [Int.mul_comm]; exact h1)
          omega
        rw [if_neg this]
        exact Ev.now _
      · refine Ev.neg hbig (Ev.bind (div64 (by omega) (by omega) (by omega) (by omega) (by omega)) ?_)
        rw [show p / 18446744073709551616 * 18446744073709551616 + p % 18446744073709551616 = p by omega]
        by_cases h : p / c ≤ 9223372036854775807
        · rw [if_pos h]
          refine Ev.neg (by omega) ?_
          rw [i64_in (by have := Int.ediv_nonneg hp0 (show 0 ≤ c by omega); omega) h]
          exact Ev.now _
        · rw [if_neg h]
          exact Ev.pos (by omega) (Ev.now _)
  unfold num_MulDiv.f
  by_cases h1 : a < 0
  · exact Ev.pos h1 (key true (by simp [h1]))
  · refine Ev.neg h1 ?_
    by_cases h2 : b < 0
    · exact Ev.pos h2 (key true (by simp [h2]))
    · exact Ev.neg h2 (key _ (by rw [decide_eq_true_iff]; omega))

theorem mod_mul (A B m M : Int) : (A % M + B % M * m) % M = (A + B * m) % M := by
  rw [Int.add_emod, Int.emod_emod, Int.mul_emod, Int.emod_emod, ← Int.mul_emod, ← Int.add_emod]

theorem mod_mul' (A B m M : Int) : (A + B % M * m) % M = (A + B * m) % M := by
  rw [Int.add_emod, Int.mul_emod, Int.emod_emod, ← Int.mul_emod, ← Int.add_emod]

theorem ref_plus (m m' : Bool) {h l h' l' : Int} (a3 : 0 ≤ l) (a4 : l < 18446744073709551616) (b3 : 0 ≤ l') (b4 : l' < 18446744073709551616) :
    ∃ H L, gangerref01_plus.f m h l m' h' l' = some (m, H, L) ∧ 0 ≤ H ∧ H < 18446744073709551616 ∧ 0 ≤ L ∧ L < 18446744073709551616 ∧ H * 18446744073709551616 + L = (h * 18446744073709551616 + l + (h' * 18446744073709551616 + l')) % 340282366920938463463374607431768211456 := by
  unfold gangerref01_plus.f
  simp only [w64]
  by_cases c : (l + l') % 18446744073709551616 < l
  · rw [if_pos c]
    exact ⟨_, _, rfl, by omega, by omega, by omega, by omega, by omega⟩
  · rw [if_neg c]
    exact ⟨_, _, rfl, by omega, by omega, by omega, by omega, by omega⟩

theorem ref_product_loop (am bm : Bool) (ah al bh bl : Int) (d : Nat) : ∀ (n : Int) (om xm : Bool) (oh ol xh xl : Int), 0 ≤ n → n < d → n < 18446744073709551616 → 0 ≤ oh → oh < 18446744073709551616 → 0 ≤ ol → ol < 18446744073709551616 → 0 ≤ xh → xh < 18446744073709551616 → 0 ≤ xl → xl < 18446744073709551616 →
    ∃ H L, Ev (fun k => gangerref01_Product.l0 k n am ah al bm bh bl om oh ol xm xh xl) (am != bm, H, L) ∧ 0 ≤ H ∧ H < 18446744073709551616 ∧ 0 ≤ L ∧ L < 18446744073709551616 ∧
      H * 18446744073709551616 + L = (oh * 18446744073709551616 + ol + (xh * 18446744073709551616 + xl) * n) % 340282366920938463463374607431768211456 := by
  induction d with
  | zero => intro n; omega
  | succ d ih =>
    intro n om xm oh ol xh xl hn0 hn hn1 o1 o2 o3 o4 x1 x2 x3 x4
    by_cases h0 : n > 0
    · have et : Int.tmod n 2 = n % 2 := Int.tmod_eq_emod_of_nonneg hn0
      have ed : IntKind.u64.wrap (Int.tdiv n 2) = n / 2 := by rw [Int.tdiv_eq_ediv_of_nonneg hn0]; exact w64_in (by omega) (by omega)
      obtain ⟨X, Y, hx, hx1, hx2, hx3, hx4, hxe⟩ := ref_plus xm xm (h := xh) (h' := xh) x3 x4 x3 x4
      by_cases hodd : n % 2 = 1
      · obtain ⟨O, Q, ho, ho1, ho2, ho3, ho4, hoe⟩ := ref_plus om xm (h := oh) (h' := xh) o3 o4 x3 x4
        obtain ⟨H, L, hev, r1, r2, r3, r4, he⟩ := ih (n / 2) om xm O Q X Y (by omega) (by omega) (by omega) ho1 ho2 ho3 ho4 hx1 hx2 hx3 hx4
        refine ⟨H, L, Ev.step (fun k => by rw [gangerref01_Product.l0, et, ed, ho, hx]) ?_, r1, r2, r3, r4, ?_⟩
        · refine Ev.pos h0 (Ev.pos hodd ?_)
          simp only [Option.bind_some]
          exact hev
        · rw [he, hoe, hxe]
          obtain ⟨m, rfl⟩ : ∃ m, n = 2 * m + 1 := ⟨n / 2, by omega⟩
          rw [show (2 * m + 1) / 2 = m by omega]
          generalize xh * 18446744073709551616 + xl = x at *
          generalize oh * 18446744073709551616 + ol = o at *
          rw [mod_mul, Int.mul_add, Int.mul_one, Int.add_mul, Int.two_mul m, Int.mul_add]
          congr 1
          omega
      · obtain ⟨H, L, hev, r1, r2, r3, r4, he⟩ := ih (n / 2) om xm oh ol X Y (by omega) (by omega) (by omega) o1 o2 o3 o4 hx1 hx2 hx3 hx4
        refine ⟨H, L, Ev.step (fun k => by rw [gangerref01_Product.l0, et, ed, hx]) ?_, r1, r2, r3, r4, ?_⟩
        · refine Ev.pos h0 (Ev.neg hodd ?_)
          simp only [Option.bind_some]
          exact hev
        · rw [he, hxe]
          obtain ⟨m, rfl⟩ : ∃ m, n = 2 * m := ⟨n / 2, by omega⟩
          rw [show 2 * m / 2 = m by omega]
          generalize xh * 18446744073709551616 + xl = x at *
          generalize oh * 18446744073709551616 + ol = o at *
          rw [mod_mul', Int.add_mul, Int.two_mul m, Int.mul_add]
    · have : n = 0 := by omega
      subst this
      refine ⟨oh, ol, Ev.step (fun k => by rw [gangerref01_Product.l0]) (Ev.neg h0 (Ev.now _)), o1, o2, o3, o4, ?_⟩
      rw [Int.mul_zero, Int.add_zero]
      omega

theorem ref_product (am bm : Bool) {a b : Int} (a1 : 0 ≤ a) (a2 : a < 18446744073709551616) (b1 : 0 ≤ b) (b2 : b < 18446744073709551616) :
    Ev (fun k => gangerref01_Product.f k am 0 a bm 0 b) (am != bm, a * b / 18446744073709551616, a * b % 18446744073709551616) := by
  obtain ⟨H, L, hev, r1, r2, r3, r4, he⟩ := ref_product_loop am bm 0 a 0 b (b.toNat + 1) b false false 0 0 0 a b1 (by omega) b2 (by omega) (by omega) (by omega) (by omega) (by omega) (by omega) a1 a2
  have hb := mul_bound a1 a2 b1 b2
  simp only [Int.zero_mul, Int.zero_add] at he
  generalize a * b = p at *
  have e1 : H = p / 18446744073709551616 := by omega
  have e2 : L = p % 18446744073709551616 := by omega
  rw [← e1, ← e2]
  exact Ev.congr (fun k => by rw [gangerref01_Product.f]) hev

theorem ref_of {n : Int} (h0 : 0 ≤ n) (h1 : n ≤ 9223372036854775807) : gangerref01_Of.f n = some (false, 0, n) := by
  unfold gangerref01_Of.f gangerref01_size.f
  rw [if_neg (by omega), w64_in h0 (by omega)]
  simp only [Option.bind_some]
  rw [decide_eq_false (by omega)]

theorem ref_told {h l : Int} (h0 : 0 ≤ h) (l0 : 0 ≤ l) (l1 : l < 18446744073709551616) :
    Ev (fun k => gangerref01_told.f k false h l) (if h * 18446744073709551616 + l ≤ 9223372036854775807 then (h * 18446744073709551616 + l, 0) else (0, 10)) := by
  have nar : Ev (fun k => gangerref01_Wide_Narrow.f k false h l) (if h * 18446744073709551616 + l ≤ 9223372036854775807 then (l, true) else (0, false)) := by
    have key : ∀ b : Bool, (b = true → ¬ h * 18446744073709551616 + l ≤ 9223372036854775807) → (b = false → h = 0) → Ev (fun k => gangerref01_Wide_Narrow.j0 k b false h l) (if h * 18446744073709551616 + l ≤ 9223372036854775807 then (l, true) else (0, false)) := by
      intro b hb hb2
      refine Ev.step (fun k => by rw [gangerref01_Wide_Narrow.j0]) ?_
      cases b with
      | true =>
        rw [if_neg (hb rfl)]
        exact Ev.pos rfl (Ev.now _)
      | false =>
        have := hb2 rfl
        subst this
        refine Ev.neg (by simp) (Ev.neg (by simp) (Ev.step (fun k => by rw [gangerref01_Wide_Narrow.j1]) (Ev.neg (by simp) ?_)))
        by_cases c : l > 9223372036854775807
        · rw [if_neg (show ¬ (0 : Int) * 18446744073709551616 + l ≤ 9223372036854775807 by omega)]
          exact Ev.pos c (Ev.now _)
        · rw [if_pos (show (0 : Int) * 18446744073709551616 + l ≤ 9223372036854775807 by omega)]
          refine Ev.neg c (Ev.neg (by simp) ?_)
          rw [i64_in (by omega) (by omega)]
          exact Ev.now _
    unfold gangerref01_Wide_Narrow.f
    by_cases c : h > 0
    · exact Ev.pos c (key true (fun _ => by omega) (by simp))
    · exact Ev.neg c (key _ (fun hb => by rw [decide_eq_true_iff] at hb; omega) (fun _ => by omega))
  unfold gangerref01_told.f
  refine Ev.bind nar ?_
  by_cases c : h * 18446744073709551616 + l ≤ 9223372036854775807
  · simp only [if_pos c]
    refine Ev.pos trivial ?_
    have : h = 0 := by omega
    subst this
    rw [Int.zero_mul, Int.zero_add]
    exact Ev.now _
  · simp only [if_neg c]
    exact Ev.neg (by simp) (Ev.now _)

theorem div_step (W c r q : Int) (hW : W / 2 = q * c + r) : W = (q + q) * c + (r * 2 + W % 2) := by
  rw [Int.add_mul]
  generalize q * c = z at *
  omega

theorem bit_of (wh wl : Int) (i : Nat) (l0 : 0 ≤ wl) (l1 : wl < 18446744073709551616) :
    (wh * 18446744073709551616 + wl) / 2 ^ i % 2 = if 64 ≤ i then wh / 2 ^ (i - 64) % 2 else wl / 2 ^ i % 2 := by
  by_cases c : 64 ≤ i
  · rw [if_pos c]
    obtain ⟨j, rfl⟩ : ∃ j, i = 64 + j := ⟨i - 64, by omega⟩
    rw [show 64 + j - 64 = j by omega, Int.pow_add, ← Int.ediv_ediv_of_nonneg (by decide)]
    rw [show (2 : Int) ^ 64 = 18446744073709551616 by decide, show (wh * 18446744073709551616 + wl) / 18446744073709551616 = wh by omega]
  · rw [if_neg c]
    obtain ⟨j, hj⟩ : ∃ j, 64 = i + 1 + j := ⟨63 - i, by omega⟩
    have e : (18446744073709551616 : Int) = 2 ^ j * 2 * 2 ^ i := by
      rw [show (18446744073709551616 : Int) = 2 ^ 64 by decide, hj, Int.pow_add, Int.pow_succ, Int.mul_comm (2 ^ i * 2), Int.mul_comm (2 ^ i) 2, Int.mul_assoc]
    rw [e, ← Int.mul_assoc, Int.add_comm, Int.add_mul_ediv_right _ _ (by have := pow2_pos i; omega), ← Int.mul_assoc, Int.add_mul_emod_self_right]

theorem ref_muldiv_loop {c wh wl : Int} (hc : 1 ≤ c) (hc1 : c ≤ 9223372036854775807) (h0 : 0 ≤ wh) (h1 : wh < 18446744073709551616) (l0 : 0 ≤ wl) (l1 : wl < 18446744073709551616) (wm : Bool) (j : Nat) :
    ∀ (r qh ql : Int), j ≤ 128 → 0 ≤ r → r < c → 0 ≤ qh → qh < 18446744073709551616 → 0 ≤ ql → ql < 18446744073709551616 → (wh * 18446744073709551616 + wl) / 2 ^ j = (qh * 18446744073709551616 + ql) * c + r →
      Ev (fun k => gangerref01_MulDiv.l0 k c r (j - 1 : Int) wm wh wl false qh ql) (if (wh * 18446744073709551616 + wl) / c ≤ 9223372036854775807 then ((wh * 18446744073709551616 + wl) / c, 0) else (0, 10)) := by
  induction j with
  | zero =>
    intro r qh ql _ r0 r1 q0 q1 p0 p1 he
    refine Ev.step (fun k => by rw [gangerref01_MulDiv.l0]) (Ev.neg (by omega) ?_)
    have hq : (wh * 18446744073709551616 + wl) / c = qh * 18446744073709551616 + ql := by
      rw [Int.pow_zero, Int.ediv_one] at he
      rw [he, Int.add_comm, Int.add_mul_ediv_right _ _ (by omega), Int.ediv_eq_zero_of_lt r0 r1, Int.zero_add]
    rw [hq]
    refine Ev.bind (ref_told q0 p0 p1) (Ev.now _)
  | succ j ih =>
    intro r qh ql hj r0 r1 q0 q1 p0 p1 he
    have hcast : ((j + 1 : Nat) : Int) - 1 = j := by omega
    rw [hcast]
    obtain ⟨W, hW⟩ : ∃ W, W = (wh * 18446744073709551616 + wl) / 2 ^ j := ⟨_, rfl⟩
    have hW2 : W / 2 = (qh * 18446744073709551616 + ql) * c + r := by
      rw [hW, Int.ediv_ediv_of_nonneg (by have := pow2_pos j; omega), ← Int.pow_succ]
      exact he
    have hWlt : W < 340282366920938463463374607431768211456 := by
      rw [hW]
      refine Int.lt_of_le_of_lt (Int.ediv_le_self _ (by omega)) (by omega)
    have hst := div_step W c r _ hW2
    have hbit : W % 2 = if 64 ≤ j then wh / 2 ^ (j - 64) % 2 else wl / 2 ^ j % 2 := by rw [hW]; exact bit_of wh wl j l0 l1
    have hWnn : 0 ≤ W := by rw [hW]; exact Int.ediv_nonneg (by omega) (by have := pow2_pos j; omega)
    obtain ⟨H, L, hp, q1', q2', q3', q4', hqe⟩ := ref_plus false false (h := qh) (h' := qh) p0 p1 p0 p1
    have hQ : (qh * 18446744073709551616 + ql) * 2 ≤ W := by
      have : (qh * 18446744073709551616 + ql) * 1 ≤ (qh * 18446744073709551616 + ql) * c := Int.mul_le_mul_of_nonneg_left hc (by omega)
      omega
    have hqe' : H * 18446744073709551616 + L = qh * 18446744073709551616 + ql + (qh * 18446744073709551616 + ql) := by omega
    have hcw : IntKind.u64.wrap c = c := w64_in (by omega) (by omega)
    have ebit : ∀ b : Int, b = W % 2 → IntKind.u64.wrap (IntKind.u64.wrap (r * 2) + b) = r * 2 + W % 2 := by
      intro b hb
      rw [hb, w64_in (x := r * 2) (by omega) (by omega), w64_in (by omega) (by omega)]
    have ejm : wrap64 ((j : Int) - 1) = (j : Int) - 1 := i64_in (by omega) (by omega)
    have go : Ev (fun k => if r * 2 + W % 2 ≥ c then gangerref01_MulDiv.l0 k c (IntKind.u64.wrap (r * 2 + W % 2 - c)) ((j : Int) - 1) wm wh wl false H (IntKind.u64.wrap (L + 1)) else gangerref01_MulDiv.l0 k c (r * 2 + W % 2) ((j : Int) - 1) wm wh wl false H L)
        (if (wh * 18446744073709551616 + wl) / c ≤ 9223372036854775807 then ((wh * 18446744073709551616 + wl) / c, 0) else (0, 10)) := by
      by_cases cc : r * 2 + W % 2 ≥ c
      · refine Ev.pos cc ?_
        have hL : L % 2 = 0 := by omega
        rw [w64_in (x := r * 2 + W % 2 - c) (by omega) (by omega), w64_in (x := L + 1) (by omega) (by omega)]
        refine ih _ _ _ (by omega) (by omega) (by omega) q1' q2' (by omega) (by omega) ?_
        rw [← hW, hst, show H * 18446744073709551616 + (L + 1) = (qh * 18446744073709551616 + ql + (qh * 18446744073709551616 + ql)) + 1 by omega, Int.add_mul _ 1, Int.one_mul]
        omega
      · refine Ev.neg cc ?_
        refine ih _ _ _ (by omega) (by omega) (by omega) q1' q2' q3' q4' ?_
        rw [← hW, hqe']
        exact hst
    refine Ev.step (fun k => by rw [gangerref01_MulDiv.l0]) (Ev.pos (by omega) (Ev.pos (by rw [w64]; omega) ?_))
    rw [hcw, ejm, hp]
    by_cases c64 : (j : Int) ≥ 64
    · refine Ev.pos c64 ?_
      have e64 : IntKind.u64.wrap (wrap64 ((j : Int) - 64)) = (j : Int) - 64 := by rw [i64_in (by omega) (by omega), w64_in (by omega) (by omega)]
      rw [e64]
      refine Ev.pos (by omega) ?_
      rw [shr_in (by omega), ebit _ (by rw [hbit, if_pos (by omega), Int.tmod_eq_emod_of_nonneg (Int.ediv_nonneg h0 (by have := pow2_pos ((j : Int) - 64).toNat; omega)), show ((j : Int) - 64).toNat = j - 64 by omega])]
      simp only [Option.bind_some]
      exact go
    · refine Ev.neg c64 ?_
      have e64 : IntKind.u64.wrap (Int.tmod (j : Int) 64) = (j : Int) := by rw [Int.tmod_eq_emod_of_nonneg (by omega), w64]; omega
      rw [e64, shr_in (by omega), ebit _ (by rw [hbit, if_neg (by omega), Int.tmod_eq_emod_of_nonneg (Int.ediv_nonneg l0 (by have := pow2_pos ((j : Int)).toNat; omega)), show ((j : Int)).toNat = j by omega])]
      simp only [Option.bind_some]
      exact go

theorem ref_muldiv {a b c : Int} (ha : a ≤ 9223372036854775807) (hb : b ≤ 9223372036854775807) (hc : c ≤ 9223372036854775807) : Ev (fun k => gangerref01_MulDiv.f k a b c) (mulDiv a b c) := by
  have key : ∀ f : Bool, (f = true ↔ (a < 0 ∨ b < 0 ∨ c < 1)) → Ev (fun k => gangerref01_MulDiv.j0 k a b c f) (mulDiv a b c) := by
    intro f hf
    refine Ev.step (fun k => by rw [gangerref01_MulDiv.j0]) ?_
    unfold mulDiv
    cases f with
    | true =>
      rw [if_pos (hf.1 rfl)]
      exact Ev.pos rfl (Ev.now _)
    | false =>
      have hn : ¬ (a < 0 ∨ b < 0 ∨ c < 1) := fun h => by simpa using hf.2 h
      rw [if_neg hn]
      refine Ev.neg (by simp) ?_
      rw [ref_of (n := a) (by omega) ha, ref_of (n := b) (by omega) hb]
      simp only [Option.bind_some]
      refine Ev.bind (ref_product false false (by omega) (by omega) (by omega) (by omega)) ?_
      have hp := mul_bound (a := a) (b := b) (m := 18446744073709551616) (by omega) (by omega) (by omega) (by omega)
      have hl := ref_muldiv_loop (c := c) (wh := a * b / 18446744073709551616) (wl := a * b % 18446744073709551616) (by omega) hc (by omega) (by omega) (by omega) (by omega) (false != false) 128 0 0 0 (by omega) (by omega) (by omega) (by omega) (by omega) (by omega) (by omega)
        (by rw [show a * b / 18446744073709551616 * 18446744073709551616 + a * b % 18446744073709551616 = a * b by omega, show (2 : Int) ^ 128 = 340282366920938463463374607431768211456 by decide]; omega)
      rw [show a * b / 18446744073709551616 * 18446744073709551616 + a * b % 18446744073709551616 = a * b by omega] at hl
      exact hl
  unfold gangerref01_MulDiv.f
  by_cases h1 : a < 0
  · exact Ev.pos h1 (key true (by simp [h1]))
  · refine Ev.neg h1 ?_
    by_cases h2 : b < 0
    · exact Ev.pos h2 (key true (by simp [h2]))
    · exact Ev.neg h2 (key _ (by rw [decide_eq_true_iff]; omega))

end Go.Proofs.Ytgkmfhmodojdcaa.Num
