/- Rank: the first ones of which somebody says so; RankTops. -/
import Derived.Test.YtcnfilanbmkpaaaP03C
set_option linter.all false
namespace Go.Proofs.YtcnfilanbmkpaaaE
open Go Go.Proofs
set_option maxRecDepth 100000
set_option linter.unusedVariables false
/-- the first ones, and how often was asked -/
def topS (n m : Int) : List Key → List Key → Int → List Key × Int
  | [], out, c => (out, c)
  | k :: l, out, c => if (out.length : Int) ≥ n then (out, c) else if (k.2.2.tmod (4 : Int) != m.tmod (4 : Int)) = true then topS n m l (out ++ [k]) (c + 1) else topS n m l out (c + 1)
theorem topS_len (n m : Int) : ∀ (l out : List Key) (c : Int), (topS n m l out c).1.length ≤ out.length + l.length ∧ c ≤ (topS n m l out c).2 ∧ (topS n m l out c).2 ≤ c + l.length
  | [], out, c => by simp [topS]
  | k :: l, out, c => by
    have h1 := topS_len n m l (out ++ [k]) (c + 1)
    have h2 := topS_len n m l out (c + 1)
    simp only [List.length_append, List.length_cons, List.length_nil] at *
    unfold topS
    split
    · simp only; omega
    · split <;> omega
theorem L24_eq (K : Nat) (a : List Key) (n o0 m : Int) (ha : a.length ≤ 1000) : ∀ (f : Nat) (pre suf out : List Key) (c : Int), a = pre ++ suf → suf.length < f → out.length ≤ pre.length → 0 ≤ c ∧ c ≤ pre.length →
    L24_0 (F25 K) K a n o0 m f (pre.length : Int) out c m = some ((topS n m suf out c).1, (topS n m suf out c).2, m)
  | 0, pre, suf, out, c, e, h, ho, hc => by omega
  | f + 1, pre, [], out, c, e, h, ho, hc => by
    have := fin e
    simp only [L24_0, b24_0, this.1, Bool.false_eq_true, if_false, topS]
  | f + 1, pre, x :: xs, out, c, e, h, ho, hc => by
    obtain ⟨h1, h2, h3, h4, h5, h6⟩ := mid e (zEl T35) (by omega)
    have hlen : a.length = pre.length + (xs.length + 1) := by rw [e]; simp
    have h25 : F25 K x c m = some ((x.2.2.tmod (4 : Int) != m.tmod (4 : Int)), IntKind.i64.wrap (c + 1), m) := rfl
    have ew : IntKind.i64.wrap (c + 1) = c + 1 := i64_in (by omega) (by omega)
    simp only [L24_0, b24_0, h1, h2, h3, h4, if_true, topS]
    by_cases c1 : (out.length : Int) ≥ n
    · rw [if_pos (decide_eq_true c1), if_pos c1]
    · rw [if_neg (by simpa using c1), if_neg c1, h25, Option.bind_some, ew]
      dsimp only
      have hpl : ((pre ++ [x]).length : Int) = (pre.length : Int) + 1 := by simp
      by_cases c2 : (x.2.2.tmod (4 : Int) != m.tmod (4 : Int)) = true
      · rw [if_pos c2, if_pos c2, if_pos (fits (by simp only [List.length_singleton]; omega))]
        exact L24_eq K a n o0 m ha f (pre ++ [x]) xs (out ++ [x]) (c + 1) h5 (by simpa using h) (by simp; omega) ⟨by omega, by omega⟩
      · rw [if_neg c2, if_neg c2]
        exact L24_eq K a n o0 m ha f (pre ++ [x]) xs out (c + 1) h5 (by simpa using h) (by simp; omega) ⟨by omega, by omega⟩
theorem L6_eq (a : List Key) (n m : Int) (ha : a.length ≤ 300) (out : List Key) (c : Int) (ho : out.length ≤ 300) : ∀ (f : Nat) (pre suf want : List Key), a = pre ++ suf → suf.length < f → want.length ≤ pre.length → topS n m suf want (pre.length : Int) = (out, c) →
    L6_0 (F10 2000) (F11 2000) (F24 2000) (F17 2000) 2000 a n m f out (pre.length : Int) m c want = some true
  | 0, pre, suf, want, e, h, hw, ht => by omega
  | f + 1, pre, [], want, e, h, hw, ht => by
    obtain ⟨f1, rfl⟩ := fin e
    have ht' : (want, (pre.length : Int)) = (out, c) := ht
    cases ht'
    simp only [L6_0, b6_0, f1, Bool.false_eq_true, if_false]
    rw [F17_eq 2000 _ _ (by omega) (by omega), Option.bind_some, if_pos (by simp), if_pos (by simp), known_eq]
    rfl
  | f + 1, pre, x :: xs, want, e, h, hw, ht => by
    obtain ⟨h1, h2, h3, h4, h5, h6⟩ := mid e (zEl T35) (by omega)
    have hlen : a.length = pre.length + (xs.length + 1) := by rw [e]; simp
    simp only [L6_0, b6_0, h1, h2, h3, h4, if_true]
    unfold topS at ht
    have hpl : ((pre ++ [x]).length : Int) = (pre.length : Int) + 1 := by simp
    by_cases c1 : (want.length : Int) ≥ n
    · rw [if_pos c1] at ht
      cases ht
      rw [if_neg (by simpa using c1), F17_eq 2000 _ _ (by omega) (by omega), Option.bind_some, if_pos (by simp), if_pos (by simp), known_eq]
      rfl
    · rw [if_neg c1] at ht
      rw [if_pos (decide_eq_true (by omega))]
      by_cases c2 : (x.2.2.tmod (4 : Int) != m.tmod (4 : Int)) = true
      · rw [if_pos c2] at ht
        rw [if_pos c2, if_pos (fits (by simp only [List.length_singleton]; omega))]
        exact L6_eq a n m ha out c ho f (pre ++ [x]) xs (want ++ [x]) h5 (by simpa using h) (by simp; omega) (by rw [hpl]; exact ht)
      · rw [if_neg c2] at ht
        rw [if_neg c2]
        exact L6_eq a n m ha out c ho f (pre ++ [x]) xs want h5 (by simpa using h) (by simp; omega) (by rw [hpl]; exact ht)
theorem rankTops (a : List Key) (n m : Int) (_ : Gd (.sl T35) a) (_ : (Lit.int .i64 n).wf = true) (_ : (Lit.int .u32 m).wf = true) : F6 2000 a n m = some true := by
  unfold F6 G6 t6
  rw [F10_eq, Option.bind_some]
  by_cases c : a.length > 300
  · rw [if_pos (by rw [decide_eq_true c]; rfl), known_eq]; rfl
  · rw [if_neg (by rw [decide_eq_false c]; decide)]
    have h24 : F24 2000 a n 0 m = some ((topS n m a [] 0).1, (topS n m a [] 0).2, m) := L24_eq 2000 a n 0 m (by omega) 2000 [] a [] 0 rfl (by omega) (by simp) (by simp)
    have hl := topS_len n m a [] 0
    rw [h24, Option.bind_some]
    exact L6_eq a n m (by omega) (topS n m a [] 0).1 (topS n m a [] 0).2 (by simp only [List.length_nil] at hl; omega) 2000 [] a [] rfl (by omega) (by simp) rfl
end Go.Proofs.YtcnfilanbmkpaaaE
