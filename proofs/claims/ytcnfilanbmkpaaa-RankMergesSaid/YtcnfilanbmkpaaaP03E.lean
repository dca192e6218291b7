/- Rank: RankPuts and RankMerges in plain words. -/
import Derived.Test.YtcnfilanbmkpaaaP03D
set_option linter.all false
namespace Go.Proofs.YtcnfilanbmkpaaaE
open Go Go.Proofs
set_option maxRecDepth 100000
set_option linter.unusedVariables false
theorem ins_le (k : Key) (l : List Key) : (ins k l).length = l.length + 1 := ins_len k l
theorem put_len (l : List Key) (k : Key) : (put l k).1.length ≤ l.length + 1 := by
  unfold put
  (repeat' split)
  · exact Nat.zero_le _
  · exact Nat.zero_le _
  · exact Nat.le_of_eq (ins_len k l)
theorem drop1_len (l : List Key) (id : Int) : (drop1 l id).1.length ≤ l.length := by
  unfold drop1
  split
  · exact Nat.zero_le _
  · exact List.length_filter_le _ _
theorem mrg_len (a b : List Key) : (mrg a b).1.length ≤ a.length + b.length := by
  unfold mrg
  split
  · exact Nat.zero_le _
  split
  · exact Nat.zero_le _
  unfold sorted
  split
  · show (isort _).length ≤ _
    rw [isort_len]; simp
  · exact Nat.zero_le _
theorem L8_1_eq (a : List Key) (k : Key) (id : Int) (ha : a.length ≤ 300) : ∀ (n i : Nat) (p q c d : List Key), c.length < n + i → i ≤ c.length → c.length ≤ 301 →
    L8_1 (F10 2000) (F11 2000) (F12 2000) (F28 2000) (F29 2000) (F30 2000) (F31 2000) (F17 2000) 2000 a k id n (i : Int) a p q c d = some true
  | 0, i, p, q, c, d, h, h1, h2 => by omega
  | n + 1, i, p, q, c, d, h, h1, h2 => by
    simp only [L8_1, b8_1]
    by_cases e : i < c.length
    · have d1 : decide ((i : Int) < (c.length : Int)) = true := decide_eq_true (by omega)
      have d2 : decide ((0 : Int) ≤ (i : Int) ∧ (i : Int) < (c.length : Int)) = true := decide_eq_true (by omega)
      have e1 : IntKind.i64.wrap ((i : Int) + 1) = ((i + 1 : Nat) : Int) := by rw [i64_in (by omega) (by omega)]; omega
      rw [if_pos d1, if_pos d2, e1]
      have hs : ∀ k, (c.set i k).length = c.length := fun k => List.length_set
      refine L8_1_eq a k id ha n (i + 1) p q _ d ?_ ?_ ?_ <;> rw [Int.toNat_natCast, hs] <;> omega
    · have d1 : decide ((i : Int) < (c.length : Int)) = false := decide_eq_false (by omega)
      rw [d1, if_neg Bool.false_ne_true, F17_eq 2000 a a (by omega) (by omega), Option.bind_some, if_pos (decide_eq_true rfl), known_eq]
      rfl
theorem L8_0_eq (a : List Key) (k : Key) (id : Int) (ha : a.length ≤ 300) (q c d : List Key) (hc : c.length ≤ 301) : ∀ (n i : Nat) (p : List Key), p.length < n + i → i ≤ p.length → p.length ≤ 301 →
    L8_0 (F10 2000) (F11 2000) (F12 2000) (F28 2000) (F29 2000) (F30 2000) (F31 2000) (F17 2000) 2000 a k id n (i : Int) a p q c d = some true
  | 0, i, p, h, h1, h2 => by omega
  | n + 1, i, p, h, h1, h2 => by
    simp only [L8_0, b8_0]
    by_cases e : i < p.length
    · have d1 : decide ((i : Int) < (p.length : Int)) = true := decide_eq_true (by omega)
      have d2 : decide ((0 : Int) ≤ (i : Int) ∧ (i : Int) < (p.length : Int)) = true := decide_eq_true (by omega)
      have e1 : IntKind.i64.wrap ((i : Int) + 1) = ((i + 1 : Nat) : Int) := by rw [i64_in (by omega) (by omega)]; omega
      rw [if_pos d1, if_pos d2, e1]
      have hs : ∀ k, (p.set i k).length = p.length := fun k => List.length_set
      refine L8_0_eq a k id ha q c d hc n (i + 1) _ ?_ ?_ ?_ <;> rw [Int.toNat_natCast, hs] <;> omega
    · have d1 : decide ((i : Int) < (p.length : Int)) = false := decide_eq_false (by omega)
      rw [d1, if_neg Bool.false_ne_true]
      exact L8_1_eq a k id ha 2000 0 p q c d (by omega) (Nat.zero_le _) hc
theorem rankPuts (a : List Key) (k : Key) (id : Int) (_ : Gd (.sl T35) a) (_ : Gd T35 k) (_ : (Lit.int .u32 id).wf = true) : F8 2000 a k id = some true := by
  unfold F8 G8 t8
  rw [F10_eq, Option.bind_some]
  by_cases c : a.length > 300
  · rw [if_pos (by rw [decide_eq_true c]; rfl), known_eq]; rfl
  · rw [if_neg (by rw [decide_eq_false c]; decide)]
    have h1 := put_len a k
    have h2 := drop1_len a id
    rw [F12_eq 2000 a (by omega), Option.bind_some, F28_eq 2000 (by omega) a k (by omega) (by omega), Option.bind_some, F29_eq 2000 a k (by omega) (by omega), Option.bind_some,
      F30_eq 2000 (by omega) a id (by omega) (by omega), Option.bind_some, F31_eq 2000 a id (by omega) (by omega), Option.bind_some,
      F17_eq 2000 _ _ (by omega) (by omega), Option.bind_some, if_neg (by simp), if_neg (by simp), F17_eq 2000 _ _ (by omega) (by omega), Option.bind_some, if_neg (by simp), if_neg (by simp)]
    exact L8_0_eq a k id (by omega) _ _ _ (by omega) 2000 0 _ (by omega) (Nat.zero_le _) (by omega)
theorem L7_eq (a b : List Key) (ha : a.length ≤ 300) (hb : b.length ≤ 300) (m : List Key) : ∀ (n i : Nat) (p : List Key), p.length < n + i → i ≤ p.length → p.length ≤ 600 →
    L7_0 (F10 2000) (F11 2000) (F12 2000) (F26 2000) (F27 2000) (F17 2000) 2000 a b n (i : Int) a b p m = some true
  | 0, i, p, h, h1, h2 => by omega
  | n + 1, i, p, h, h1, h2 => by
    simp only [L7_0, b7_0]
    by_cases e : i < p.length
    · have d1 : decide ((i : Int) < (p.length : Int)) = true := decide_eq_true (by omega)
      have d2 : decide ((0 : Int) ≤ (i : Int) ∧ (i : Int) < (p.length : Int)) = true := decide_eq_true (by omega)
      have e1 : IntKind.i64.wrap ((i : Int) + 1) = ((i + 1 : Nat) : Int) := by rw [i64_in (by omega) (by omega)]; omega
      rw [if_pos d1, if_pos d2, e1]
      have hs : ∀ k, (p.set i k).length = p.length := fun k => List.length_set
      refine L7_eq a b ha hb m n (i + 1) _ ?_ ?_ ?_ <;> rw [Int.toNat_natCast, hs] <;> omega
    · have d1 : decide ((i : Int) < (p.length : Int)) = false := decide_eq_false (by omega)
      rw [d1, if_neg Bool.false_ne_true, F17_eq 2000 a a (by omega) (by omega), Option.bind_some, if_pos (decide_eq_true rfl), F17_eq 2000 b b (by omega) (by omega), Option.bind_some, if_pos (decide_eq_true rfl), known_eq]
      rfl
theorem rankMerges (a b : List Key) (_ : Gd (.sl T35) a) (_ : Gd (.sl T35) b) : F7 2000 a b = some true := by
  unfold F7 G7 t7
  rw [F10_eq, Option.bind_some]
  by_cases c : a.length > 300 ∨ b.length > 300
  · rw [if_pos (by rcases c with c | c <;> simp [c]), known_eq]; rfl
  · have c1 : ¬ a.length > 300 := fun h => c (.inl h)
    have c2 : ¬ b.length > 300 := fun h => c (.inr h)
    rw [if_neg (by simp [c1, c2])]
    have h1 := mrg_len a b
    rw [F12_eq 2000 a (by omega), Option.bind_some, F12_eq 2000 b (by omega), Option.bind_some, F26_eq 2000 (by omega) a b (by omega) (by omega) (by omega), Option.bind_some,
      F27_eq 2000 a b (by omega) (by omega) (by omega), Option.bind_some, F17_eq 2000 _ _ (by omega) (by omega), Option.bind_some, if_neg (by simp), if_neg (by simp)]
    exact L7_eq a b (by omega) (by omega) _ 2000 0 _ (by omega) (Nat.zero_le _) (by omega)
end Go.Proofs.YtcnfilanbmkpaaaE
