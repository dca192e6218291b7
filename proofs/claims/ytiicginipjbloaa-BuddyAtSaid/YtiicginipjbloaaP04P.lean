/- Buddy: BuddyAt in plain words: just those blocks may be taken by their place all of whose workers are free. -/
import Derived.Test.YtiicginipjbloaaS04F12
import Derived.Test.YtiicginipjbloaaP04O
set_option linter.all false
namespace Go.Proofs.YtiicginipjbloaaE
open Go Go.Proofs
set_option maxRecDepth 100000
set_option linter.unusedVariables false
/-- is a block within one of these? -/
def within (k p : Nat) (b : Bk) : Bool := decide (((p * 2 ^ k : Nat) : Int) ≥ b.1) && decide (((p * 2 ^ k + 2 ^ k : Nat) : Int) ≤ b.1 + ((2 ^ Int.toNat b.2 : Nat) : Int))
theorem within_full {n : Nat} {U : Wk} {y : Yard} (h : Rep n U y) {k p : Nat} (hk : k ≤ n) : (frL y).any (within k p) = true ↔ Full U k p := by
  rw [List.any_eq_true]
  constructor
  · rintro ⟨b, hb, hw⟩
    obtain ⟨j, q, hj, rfl, hm⟩ := (mem_frL h).1 hb
    unfold within at hw
    rw [Bool.and_eq_true, decide_eq_true_eq, decide_eq_true_eq] at hw
    have hw1 : ((p * 2 ^ k : Nat) : Int) ≥ ((q * 2 ^ j : Nat) : Int) := hw.1
    have hw2 : ((p * 2 ^ k + 2 ^ k : Nat) : Int) ≤ ((q * 2 ^ j : Nat) : Int) + ((2 ^ j : Nat) : Int) := hw.2
    rw [← Int.natCast_add] at hw2
    have h1 := Int.ofNat_le.1 hw1
    have h2 := Int.ofNat_le.1 hw2
    intro w hwk
    refine hm.1 w ?_
    have e1 := (Nat.le_div_iff_mul_le (pos2 k) (x := p) (y := w)).1 (Nat.le_of_eq hwk.symm)
    have e2 := (Nat.div_lt_iff_lt_mul (pos2 k) (x := w) (y := p + 1)).1 (by omega)
    rw [Nat.add_mul, Nat.one_mul] at e2
    have e3 := (Nat.le_div_iff_mul_le (pos2 j) (x := q) (y := w)).2 (by omega)
    have e4 := (Nat.div_lt_iff_lt_mul (pos2 j) (x := w) (y := q + 1)).2 (by rw [Nat.add_mul, Nat.one_mul]; omega)
    omega
  · intro hF
    obtain ⟨o, h1, h2, h3, _⟩ := max_over (n := n) (U := U) (n - k) k p (by omega) hF
    refine ⟨mkB o (p / 2 ^ (o - k)), (mem_frL h).2 ⟨o, _, h2, rfl, h3⟩, ?_⟩
    unfold within
    have e0 : p * 2 ^ k / 2 ^ o = p / 2 ^ (o - k) := over_div h1
    have hlast : (p * 2 ^ k + (2 ^ k - 1)) / 2 ^ o = p / 2 ^ (o - k) := by
      have e1 : (p * 2 ^ k + (2 ^ k - 1)) / 2 ^ k = p * 2 ^ k / 2 ^ k := by
        rw [first_in, Nat.add_comm, Nat.add_mul_div_right _ _ (pos2 k), Nat.div_eq_of_lt (by have := pos2 k; omega)]
        omega
      rw [div_le e1 h1, e0]
    generalize p / 2 ^ (o - k) = q at *
    have a1 := (Nat.le_div_iff_mul_le (pos2 o) (x := q) (y := p * 2 ^ k)).1 (Nat.le_of_eq e0.symm)
    have a2 := (Nat.div_lt_iff_lt_mul (pos2 o) (x := p * 2 ^ k + (2 ^ k - 1)) (y := q + 1)).1 (by omega)
    rw [Nat.add_mul, Nat.one_mul] at a2
    have hk0 := pos2 k
    rw [Bool.and_eq_true, decide_eq_true_eq, decide_eq_true_eq]
    refine ⟨show ((q * 2 ^ o : Nat) : Int) ≤ ((p * 2 ^ k : Nat) : Int) from Int.ofNat_le.2 a1, show ((p * 2 ^ k + 2 ^ k : Nat) : Int) ≤ ((q * 2 ^ o : Nat) : Int) + ((2 ^ o : Nat) : Int) from ?_⟩
    rw [← Int.natCast_add]
    exact Int.ofNat_le.2 (by omega)
theorem L10_eq (l : List (El T57)) {k p : Nat} (hk : k ≤ 5) (hp : p < 2 ^ (5 - k)) (x y : Yard) (hy : Ok 5 y) (e : Int) (he : (e = 0 ∧ Full (opn 5 (tkY y) (flY y)) k p) ∨ (e = 5 ∧ ¬ Full (opn 5 (tkY y) (flY y)) k p)) : ∀ (f : Nat) (pre suf : List Bk), frL y = pre ++ suf → suf.length < f →
    L10_0 (F11 2000) (F12 2000) (F36 2000) (F18 2000) (F15 2000) (F14 2000) (F16 2000) (F27 2000) (F17 2000) (F22 2000) (F23 2000) (F21 2000) (F19 2000) (F13 2000) (F20 2000) 2000 l ((p * 2 ^ k : Nat) : Int) (k : Int) f e (pre.any (within k p)) (pre.length : Int) x.1 y.1 (frL y) x.2.1 x.2.2.1 x.2.2.2.1 x.2.2.2.2.1 x.2.2.2.2.2.1 x.2.2.2.2.2.2.1 x.2.2.2.2.2.2.2.1 x.2.2.2.2.2.2.2.2.1 x.2.2.2.2.2.2.2.2.2.1 x.2.2.2.2.2.2.2.2.2.2.1 x.2.2.2.2.2.2.2.2.2.2.2.1 x.2.2.2.2.2.2.2.2.2.2.2.2.1 x.2.2.2.2.2.2.2.2.2.2.2.2.2 y.2.1 y.2.2.1 y.2.2.2.1 y.2.2.2.2.1 y.2.2.2.2.2.1 y.2.2.2.2.2.2.1 y.2.2.2.2.2.2.2.1 y.2.2.2.2.2.2.2.2.1 y.2.2.2.2.2.2.2.2.2.1 y.2.2.2.2.2.2.2.2.2.2.1 y.2.2.2.2.2.2.2.2.2.2.2.1 y.2.2.2.2.2.2.2.2.2.2.2.2.1 y.2.2.2.2.2.2.2.2.2.2.2.2.2 = some true
  | 0, pre, suf, e, h => by omega
  | f + 1, pre, [], ee, h => by
    have := fin ee
    have hfr := frL_len hy.rep
    have g1 : F12 2000 (y.1, y.2.1, y.2.2.1, y.2.2.2.1, y.2.2.2.2.1, y.2.2.2.2.2.1, y.2.2.2.2.2.2.1, y.2.2.2.2.2.2.2.1, y.2.2.2.2.2.2.2.2.1, y.2.2.2.2.2.2.2.2.2.1, y.2.2.2.2.2.2.2.2.2.2.1, y.2.2.2.2.2.2.2.2.2.2.2.1, y.2.2.2.2.2.2.2.2.2.2.2.2.1, y.2.2.2.2.2.2.2.2.2.2.2.2.2) = some (frL y) := F12_eq 2000 (by decide) hy
    have hiff := within_full (p := p) hy.rep hk
    rw [← this.2] at hiff
    simp only [L10_0, b10_0, this.1]
    rw [if_neg Bool.false_ne_true]
    rcases he with ⟨rfl, hF⟩ | ⟨rfl, hF⟩
    · rw [hiff.2 hF, if_neg (by decide), if_neg (by decide), g1, Option.bind_some, F18_eq 2000 _ _ (by omega) (by omega), Option.bind_some, if_neg (by simp), known_eq]
      rfl
    · have hno : pre.any (within k p) = false := by
        cases c : pre.any (within k p) with
        | false => rfl
        | true => exact absurd (hiff.1 c) hF
      rw [hno, if_neg (by decide), if_pos (by decide), if_neg (by decide), g1, Option.bind_some, F18_eq 2000 _ _ (by omega) (by omega), Option.bind_some, if_neg (by simp), known_eq]
      rfl
  | f + 1, pre, b :: suf, ee, h => by
    have hfr := frL_len hy.rep
    obtain ⟨h1, h2, h3, h4, h5, h6⟩ := mid ee (zEl T29) (by omega)
    rw [Int.toNat_natCast] at h3
    have ih := L10_eq l hk hp x y hy e he f (pre ++ [b]) suf h5 (by simpa using h)
    rw [List.any_append] at ih
    obtain ⟨j, q, hj, rfl, hm⟩ := (mem_frL hy.rep).1 (show b ∈ frL y by rw [ee]; simp)
    have hlim := lim_q hy.rep.lim hm.1
    obtain ⟨s1, s2⟩ := size_of (show j ≤ 6 by omega)
    obtain ⟨r1, r2⟩ := size_of (show k ≤ 6 by omega)
    obtain ⟨t1, t2, t3⟩ := start_lt (show 5 ≤ 6 by decide) hk hp
    have hpj : 2 ^ j ≤ 64 := pow_le6 (by omega)
    have hpk : 2 ^ k ≤ 64 := pow_le6 (by omega)
    have s3 := sum_in (A := q * 2 ^ j) (B := 2 ^ j) (by omega) (by omega)
    have r3 := sum_in (A := p * 2 ^ k) (B := 2 ^ k) (by omega) (by omega)
    simp only [L10_0, b10_0, h1, h2, h3, h4, if_true, Int.toNat_natCast, mkB, s1, s2, s3, r1, r2, r3]
    cases c0 : pre.any (within k p) with
    | true =>
      rw [if_pos rfl]
      rw [c0, Bool.true_or] at ih
      exact ih
    | false =>
      rw [if_neg Bool.false_ne_true]
      rw [c0, Bool.false_or] at ih
      have hwi : [mkB j q].any (within k p) = within k p (mkB j q) := by simp
      have hwv : within k p (mkB j q) = (decide (((p * 2 ^ k : Nat) : Int) ≥ ((q * 2 ^ j : Nat) : Int)) && decide (((p * 2 ^ k + 2 ^ k : Nat) : Int) ≤ ((q * 2 ^ j + 2 ^ j : Nat) : Int))) := by
        unfold within
        congr 1
      rw [hwi, hwv] at ih
      by_cases c : ((p * 2 ^ k : Nat) : Int) ≥ ((q * 2 ^ j : Nat) : Int)
      · rw [if_pos (decide_eq_true c)]
        rw [decide_eq_true c, Bool.true_and] at ih
        exact ih
      · rw [if_neg (by rw [decide_eq_true_eq]; exact c)]
        rw [decide_eq_false c, Bool.false_and] at ih
        exact ih
theorem buddyAt (l : List (El T57)) (s o : Int) (_ : Gd (.sl T57) l) (_ : (Lit.int .i64 s).wf = true) (_ : (Lit.int .i64 o).wf = true) : F10 2000 l s o = some true := by
  obtain ⟨y, h1, h2⟩ := F11_eq 2000 (by decide) l
  have hfr := frL_len h2.rep
  have bad : F36 2000 (s, o) y = some ((2 : Int), y) → (Option.bind (F36 2000 (s, o) y) fun x3 => (if (x3.1 == (2 : Int)) = true then (Option.bind (F12 2000 x3.2) fun x7 => (Option.bind (F18 2000 x7 (frL y)) fun x8 => (if x8 = true then (Option.bind (F15 2000) fun x9 => some (x9)) else some (false)))) else some (false))) = some true := fun h => by
    rw [h, Option.bind_some, if_pos (by rfl), F12_eq 2000 (by decide) h2, Option.bind_some, F18_eq 2000 _ _ (by omega) (by omega), Option.bind_some, if_pos (decide_eq_true rfl), known_eq]
    rfl
  unfold F10 G10 t10
  rw [h1, Option.bind_some, Option.bind_some]
  dsimp only
  rw [F12_eq 2000 (by decide) h2, Option.bind_some]
  by_cases c : 0 ≤ o ∧ o ≤ ((5 : Nat) : Int) ∧ 0 ≤ s ∧ s < ((2 ^ 5 : Nat) : Int) ∧ s % ((2 ^ o.toNat : Nat) : Int) = 0
  · obtain ⟨c1, c2, c3, c4, c5⟩ := c
    obtain ⟨k, rfl⟩ : ∃ k : Nat, o = (k : Int) := ⟨o.toNat, by omega⟩
    obtain ⟨w, rfl⟩ : ∃ w : Nat, s = (w : Int) := ⟨s.toNat, by omega⟩
    rw [Int.toNat_natCast] at c5
    have hmod : w % 2 ^ k = 0 := by
      rw [← Int.natCast_emod] at c5
      exact Int.ofNat.inj c5
    have hw : w / 2 ^ k * 2 ^ k = w := Nat.div_mul_cancel (Nat.dvd_of_mod_eq_zero hmod)
    have hk : k ≤ 5 := by omega
    have hlt : w / 2 ^ k < 2 ^ (5 - k) := by
      have h1 : w < 2 ^ 5 := Int.ofNat_lt.1 c4
      have h2 : 2 ^ 5 = 2 ^ (5 - k) * 2 ^ k := by rw [← Nat.pow_add, Nat.sub_add_cancel hk]
      rw [h2] at h1
      exact (Nat.div_lt_iff_lt_mul (pos2 k)).2 h1
    obtain ⟨r1, r2⟩ := size_of (show k ≤ 6 by omega)
    have emin : (if (0 : Int) > if (5 : Int) < (k : Int) then (5 : Int) else (k : Int) then (0 : Int) else if (5 : Int) < (k : Int) then (5 : Int) else (k : Int)) = (k : Int) := by
      rw [if_neg (show ¬ (5 : Int) < (k : Int) by omega), if_neg (by omega)]
    have hpk := pos2 k
    have hne : (!((2 ^ k : Nat) : Int) == (0 : Int)) = true := by
      have : ¬ ((2 ^ k : Nat) : Int) = 0 := by omega
      rw [beq_eq_false_iff_ne.2 this]; rfl
    have htm : (!((w : Int).tmod ((2 ^ k : Nat) : Int)) == (0 : Int)) = false := by
      rw [Int.tmod_eq_emod_of_nonneg (by omega), c5]; rfl
    have hat := takeAt_in 2000 (by decide) h2 hk hlt
    have c4' : (w : Int) < 32 := c4
    have c2' : (k : Int) ≤ 5 := c2
    have main : ∀ (e : Int) (x : Yard), ((e = 0 ∧ Full (opn 5 (tkY y) (flY y)) k (w / 2 ^ k)) ∨ (e = 5 ∧ ¬ Full (opn 5 (tkY y) (flY y)) k (w / 2 ^ k))) → _ := fun e x he => L10_eq l hk hlt x y h2 e he 2000 [] (frL y) rfl (by omega)
    simp only [mkB, hw] at hat main
    rw [emin, r1, r2]
    rcases hat with ⟨hF, y', g1, _⟩ | ⟨hF, g1⟩
    · rw [g1, Option.bind_some, if_pos (decide_eq_true c1), if_pos (decide_eq_true c2'), if_pos (decide_eq_true c3), if_pos (decide_eq_true c4'), if_pos rfl, if_pos hne, if_neg (by rw [htm]; exact Bool.false_ne_true)]
      exact main 0 y' (.inl ⟨rfl, hF⟩)
    · rw [g1, Option.bind_some, if_pos (decide_eq_true c1), if_pos (decide_eq_true c2'), if_pos (decide_eq_true c3), if_pos (decide_eq_true c4'), if_pos rfl, if_pos hne, if_neg (by rw [htm]; exact Bool.false_ne_true)]
      exact main 5 y (.inr ⟨rfl, hF⟩)
  · have ht := takeAt_arg 2000 (by decide) h2 (s := s) (o := o) c
    have hb := bad ht
    rw [ht, Option.bind_some] at hb ⊢
    by_cases c1 : o ≥ 0
    · rw [if_pos (decide_eq_true c1)]
      by_cases c2 : o ≤ 5
      · rw [if_pos (decide_eq_true c2)]
        by_cases c3 : s ≥ 0
        · rw [if_pos (decide_eq_true c3)]
          by_cases c4 : s < 32
          · rw [if_pos (decide_eq_true c4)]
            obtain ⟨k, rfl⟩ : ∃ k : Nat, o = (k : Int) := ⟨o.toNat, by omega⟩
            obtain ⟨r1, r2⟩ := size_of (show k ≤ 6 by omega)
            have emin : (if (0 : Int) > if (5 : Int) < (k : Int) then (5 : Int) else (k : Int) then (0 : Int) else if (5 : Int) < (k : Int) then (5 : Int) else (k : Int)) = (k : Int) := by
              rw [if_neg (show ¬ (5 : Int) < (k : Int) by omega), if_neg (by omega)]
            have hpk := pos2 k
            have hne : (!((2 ^ k : Nat) : Int) == (0 : Int)) = true := by
              have : ¬ ((2 ^ k : Nat) : Int) = 0 := by omega
              rw [beq_eq_false_iff_ne.2 this]; rfl
            have htm : (!(s.tmod ((2 ^ k : Nat) : Int)) == (0 : Int)) = true := by
              rw [Int.tmod_eq_emod_of_nonneg c3]
              have : ¬ s % ((2 ^ k : Nat) : Int) = 0 := fun h => c ⟨by omega, by omega, c3, c4, by rw [Int.toNat_natCast]; exact h⟩
              rw [beq_eq_false_iff_ne.2 this]; rfl
            rw [emin, r1, r2, if_pos rfl, if_pos hne, if_pos htm]
            exact hb
          · rw [if_neg (by simpa using c4)]
            exact hb
        · rw [if_neg (by simpa using c3)]
          exact hb
      · rw [if_neg (by simpa using c2)]
        exact hb
    · rw [if_neg (by simpa using c1)]
      exact hb
end Go.Proofs.YtiicginipjbloaaE
