/- Waits: what a dependency says, by the code and by the document. -/
import Derived.Test.YthebmlpohkfhbaaP14A
set_option linter.all false
namespace Go.Proofs.YthebmlpohkfhbaaE
open Go Go.Proofs
set_option maxRecDepth 100000
set_option linter.unusedVariables false
/-! ### is it in the row? -/
theorem L52_eq (K : Nat) (l : List Int) (a : Int) (hl : l.length ≤ 100000) : ∀ (n : Nat) (pre suf : List Int), l = pre ++ suf → suf.length < n →
    ∃ r : Int, L52_0 K l a n (pre.length : Int) = some r ∧ (decide (r ≥ (0 : Int)) = decide (a ∈ suf))
  | 0, pre, suf, e, h => by omega
  | n + 1, pre, [], e, h => by
    have := fin e
    refine ⟨-1, ?_, by simp⟩
    simp only [L52_0, b52_0, this.1]
    simp
  | n + 1, pre, x :: xs, e, h => by
    obtain ⟨h1, h2, h3, h4, h5, h6⟩ := mid e (zEl (Ty.int IntKind.i64)) (by omega)
    obtain ⟨r, ih, hr⟩ := L52_eq K l a hl n (pre ++ [x]) xs h5 (by simpa using h)
    simp only [L52_0, b52_0, h1, h2, h3, h4, ih, if_true, El, beq_iff_eq]
    by_cases c : a = x
    · exact ⟨_, by rw [if_pos c], by simp [c]⟩
    · exact ⟨r, by rw [if_neg c], by simpa [c] using hr⟩
theorem F47_eq (K : Nat) (l : List Int) (a : Int) (hl : l.length < K) (hl' : l.length ≤ 100000) : F47 K l a = some (decide (a ∈ l)) := by
  obtain ⟨r, h1, h2⟩ := L52_eq K l a hl' K [] l rfl hl
  have e : F47 K l a = Option.bind (L52_0 K l a K 0) fun x0 => some (decide (x0 ≥ (0 : Int))) := rfl
  have h1' : L52_0 K l a K 0 = some r := h1
  rw [e, h1', Option.bind_some, h2]
theorem L53_eq (K : Nat) (l : List Int) (a : Int) (hl : l.length ≤ 100000) : ∀ (n : Nat) (pre suf : List Int), l = pre ++ suf → suf.length < n →
    ∃ r : Int, L53_0 K l a n (pre.length : Int) = some r ∧ (decide (r ≥ (0 : Int)) = decide (a ∈ suf))
  | 0, pre, suf, e, h => by omega
  | n + 1, pre, [], e, h => by
    have := fin e
    refine ⟨-1, ?_, by simp⟩
    simp only [L53_0, b53_0, this.1]
    simp
  | n + 1, pre, x :: xs, e, h => by
    obtain ⟨h1, h2, h3, h4, h5, h6⟩ := mid e (zEl (Ty.int IntKind.u32)) (by omega)
    obtain ⟨r, ih, hr⟩ := L53_eq K l a hl n (pre ++ [x]) xs h5 (by simpa using h)
    simp only [L53_0, b53_0, h1, h2, h3, h4, ih, if_true, El, beq_iff_eq]
    by_cases c : a = x
    · exact ⟨_, by rw [if_pos c], by simp [c]⟩
    · exact ⟨r, by rw [if_neg c], by simpa [c] using hr⟩
theorem F49_eq (K : Nat) (l : List Int) (a : Int) (hl : l.length < K) (hl' : l.length ≤ 100000) : F49 K l a = some (decide (a ∈ l)) := by
  obtain ⟨r, h1, h2⟩ := L53_eq K l a hl' K [] l rfl hl
  have e : F49 K l a = Option.bind (L53_0 K l a K 0) fun x0 => some (decide (x0 ≥ (0 : Int))) := rfl
  have h1' : L53_0 K l a K 0 = some r := h1
  rw [e, h1', Option.bind_some, h2]

/-! ### may it be? -/
def e2 : Bool → Int
  | true => 0
  | false => 2
theorem e2_ne (b : Bool) : (e2 b != 0) = !b := by cases b <;> rfl
theorem e2_t : e2 true = 0 := rfl
theorem e2_f : e2 false = 2 := rfl
abbrev Need := El T54
abbrev Dep := El T39
def chkn (n : Need) : Bool := decide ((1 : Int) ≤ n.1) && decide (n.1 ≤ (5 : Int)) && (decide (n.1 = (5 : Int)) == decide (n.2.length = 0)) && decide (n.2.length ≤ 20) && decide (¬ (0 : Int) ∈ n.2)
def chkd (d : Dep) : Bool := decide (d.2.length ≤ 20) && !(d.1 && decide (d.2.length < 2)) && d.2.all chkn
theorem L43_eq (K : Nat) (hK : 2000 ≤ K) (d : Dep) (hl : d.2.length ≤ 20) : ∀ (n : Nat) (pre suf : List Need), d.2 = pre ++ suf → suf.length < n →
    L43_0 (F49 K) K d n (pre.length : Int) = some (e2 (suf.all chkn))
  | 0, pre, suf, e, h => by omega
  | n + 1, pre, [], e, h => by
    have := fin e
    simp only [L43_0, b43_0, this.1]
    simp [e2]
  | n + 1, pre, x :: xs, e, h => by
    obtain ⟨h1, h2, h3, h4, h5, h6⟩ := mid e (zEl T54) (by omega)
    have ih := L43_eq K hK d hl n (pre ++ [x]) xs h5 (by simpa using h)
    simp only [L43_0, b43_0, h1, h2, h3, h4, ih, if_true, El, List.all_cons, decide_eq_true_eq]
    by_cases c1 : x.1 < (1 : Int)
    · have hc : chkn x = false := by
        have : ¬ (1 : Int) ≤ x.1 := by simp only [El] at *; omega
        simp [chkn, this]
      simp [c1, hc, e2]
    · by_cases c2 : x.1 > (5 : Int)
      · have hc : chkn x = false := by
          have : ¬ x.1 ≤ (5 : Int) := by simp only [El] at *; omega
          simp [chkn, this]
        simp [c1, c2, hc, e2]
      · have c1' : (1 : Int) ≤ x.1 := by simp only [El] at *; omega
        have c2' : x.1 ≤ (5 : Int) := by simp only [El] at *; omega
        by_cases c3 : x.2.length ≤ 20
        · have c3' : ¬ ((x.2.length : Nat) : Int) > (20 : Int) := by omega
          rw [F49_eq K x.2 0 (by omega) (by omega)]
          simp only [c1, c2, c3', if_false, Option.bind_some]
          by_cases c4 : x.1 = (5 : Int)
          · by_cases c5 : x.2.length = 0
            · by_cases c6 : (0 : Int) ∈ x.2
              · have hc : chkn x = false := by simp [chkn, c6]
                simp [c4, c5, c6, hc, e2]
              · have hc : chkn x = true := by simp [chkn, c4, c5, c6]
                simp [c4, c5, c6, hc, e2]
            · have hc : chkn x = false := by simp [chkn, c4, c5]
              simp [c4, c5, hc, e2]
          · by_cases c5 : x.2.length = 0
            · have hc : chkn x = false := by simp [chkn, c4, c5]
              simp [c4, c5, hc, e2]
            · by_cases c6 : (0 : Int) ∈ x.2
              · have hc : chkn x = false := by simp [chkn, c6]
                simp [c4, c5, c6, hc, e2]
              · have hc : chkn x = true := by simp [chkn, c1', c2', c3, c4, c5, c6]
                have b4 : (x.1 == (5 : Int)) = false := by simpa using c4
                have b5 : (((x.2.length : Nat) : Int) == (0 : Int)) = false := beq_eq_false_iff_ne.2 (by omega)
                rw [b4, b5]
                simp [c6, hc]
        · have c3' : ((x.2.length : Nat) : Int) > (20 : Int) := by omega
          have hc : chkn x = false := by simp [chkn, c3]
          simp [c1, c2, c3', hc, e2]
theorem F43_eq (K : Nat) (hK : 2000 ≤ K) (d : Dep) : F43 K d = some (e2 (chkd d)) := by
  simp only [F43, G43, t43, decide_eq_true_eq]
  by_cases c1 : d.2.length ≤ 20
  · have c1' : ¬ ((d.2.length : Nat) : Int) > (20 : Int) := by omega
    have e : L43_0 (F49 K) K d K 0 = some (e2 (d.2.all chkn)) := L43_eq K hK d c1 K [] d.2 rfl (by omega)
    simp only [c1', e, if_false]
    by_cases c2 : d.1 = true
    · by_cases c3 : d.2.length < 2
      · have c3' : ((d.2.length : Nat) : Int) < (2 : Int) := by omega
        have hc : chkd d = false := by simp [chkd, c2, c3]
        simp [c2, c3', hc, e2]
      · have c3' : ¬ ((d.2.length : Nat) : Int) < (2 : Int) := by omega
        have hc : chkd d = d.2.all chkn := by simp [chkd, c1, c3]
        simp only [c2, c3', hc, if_true, if_false]
    · have hc : chkd d = d.2.all chkn := by simp [chkd, c1, c2]
      simp only [c2, hc, if_false]
      rfl
  · have c1' : ((d.2.length : Nat) : Int) > (20 : Int) := by omega
    have hc : chkd d = false := by simp [chkd, c1]
    simp [c1', hc, e2]
theorem L19_1_eq (K : Nat) (d : Dep) (r0 : Int → Option Int) (i : Int) (x : Need) (hl : x.2.length ≤ 20) : ∀ (n : Nat) (pre suf : List Int), x.2 = pre ++ suf → suf.length < n →
    L19_1 K d r0 n i (pre.length : Int) x = if (0 : Int) ∈ suf then some 2 else r0 (IntKind.i64.wrap (i + (1 : Int)))
  | 0, pre, suf, e, h => by omega
  | n + 1, pre, [], e, h => by
    have := fin e
    simp only [L19_1, b19_1, this.1]
    simp
  | n + 1, pre, y :: ys, e, h => by
    obtain ⟨h1, h2, h3, h4, h5, h6⟩ := mid e (zEl (Ty.int IntKind.u32)) (by omega)
    have ih := L19_1_eq K d r0 i x hl n (pre ++ [y]) ys h5 (by simpa using h)
    simp only [L19_1, b19_1, h1, h2, h3, h4, ih, if_true, El, beq_iff_eq]
    by_cases c : y = 0
    · simp [c]
    · have c' : ¬ 0 = y := fun h => c h.symm
      simp [c, c']
theorem L19_eq (K : Nat) (hK : 2000 ≤ K) (d : Dep) (hl : d.2.length ≤ 20) : ∀ (n : Nat) (pre suf : List Need), d.2 = pre ++ suf → suf.length < n →
    L19_0 K d n (pre.length : Int) = some (e2 (suf.all chkn))
  | 0, pre, suf, e, h => by omega
  | n + 1, pre, [], e, h => by
    have := fin e
    simp only [L19_0, b19_0, this.1]
    simp [e2]
  | n + 1, pre, x :: xs, e, h => by
    obtain ⟨h1, h2, h3, h4, h5, h6⟩ := mid e (zEl T54) (by omega)
    have ih := L19_eq K hK d hl n (pre ++ [x]) xs h5 (by simpa using h)
    simp only [L19_0, b19_0, h1, h2, h3, if_true, El, List.all_cons, decide_eq_true_eq, beq_iff_eq, bne_iff_ne, ne_eq]
    by_cases c3 : x.2.length ≤ 20
    · have c3' : ¬ ((x.2.length : Nat) : Int) > (20 : Int) := by omega
      have e0 : ((x.2.length : Nat) : Int) = 0 ↔ x.2.length = 0 := by omega
      have inner : L19_1 K d (L19_0 K d n) K (pre.length : Int) 0 x = if (0 : Int) ∈ x.2 then some 2 else L19_0 K d n (IntKind.i64.wrap ((pre.length : Int) + (1 : Int))) := L19_1_eq K d _ _ x c3 K [] x.2 rfl (by omega)
      rw [inner, h4, ih]
      simp only [c3', if_false, e0]
      have hk : x.1 = (1 : Int) ∨ x.1 = (2 : Int) ∨ x.1 = (3 : Int) ∨ x.1 = (4 : Int) ∨ x.1 = (5 : Int) ∨ ¬ ((1 : Int) ≤ x.1 ∧ x.1 ≤ (5 : Int)) := by simp only [El] at *; omega
      have hd : chkn x = (decide ((1 : Int) ≤ x.1 ∧ x.1 ≤ (5 : Int)) && (decide (x.1 = (5 : Int)) == decide (x.2.length = 0)) && decide (¬ (0 : Int) ∈ x.2)) := by simp [chkn, c3]
      rcases hk with c | c | c | c | c | c
      · by_cases c5 : x.2.length = 0
        · have hc : chkn x = false := by rw [hd]; simp [c, c5]
          simp [c, c5, hc, e2]
        · by_cases c6 : (0 : Int) ∈ x.2
          · have hc : chkn x = false := by rw [hd]; simp [c6]
            simp [c, c5, c6, hc, e2]
          · have hc : chkn x = true := by rw [hd]; simp [c, c5, c6]
            simp [c, c5, c6, hc, e2]
      · by_cases c5 : x.2.length = 0
        · have hc : chkn x = false := by rw [hd]; simp [c, c5]
          simp [c, c5, hc, e2]
        · by_cases c6 : (0 : Int) ∈ x.2
          · have hc : chkn x = false := by rw [hd]; simp [c6]
            simp [c, c5, c6, hc, e2]
          · have hc : chkn x = true := by rw [hd]; simp [c, c5, c6]
            simp [c, c5, c6, hc, e2]
      · by_cases c5 : x.2.length = 0
        · have hc : chkn x = false := by rw [hd]; simp [c, c5]
          simp [c, c5, hc, e2]
        · by_cases c6 : (0 : Int) ∈ x.2
          · have hc : chkn x = false := by rw [hd]; simp [c6]
            simp [c, c5, c6, hc, e2]
          · have hc : chkn x = true := by rw [hd]; simp [c, c5, c6]
            simp [c, c5, c6, hc, e2]
      · by_cases c5 : x.2.length = 0
        · have hc : chkn x = false := by rw [hd]; simp [c, c5]
          simp [c, c5, hc, e2]
        · by_cases c6 : (0 : Int) ∈ x.2
          · have hc : chkn x = false := by rw [hd]; simp [c6]
            simp [c, c5, c6, hc, e2]
          · have hc : chkn x = true := by rw [hd]; simp [c, c5, c6]
            simp [c, c5, c6, hc, e2]
      · by_cases c5 : x.2.length = 0
        · by_cases c6 : (0 : Int) ∈ x.2
          · have hc : chkn x = false := by rw [hd]; simp [c6]
            simp [c, c5, c6, hc, e2]
          · have hc : chkn x = true := by rw [hd]; simp [c, c5, c6]
            simp [c, c5, c6, hc, e2]
        · have hc : chkn x = false := by rw [hd]; simp [c, c5]
          simp [c, c5, hc, e2]
      · have d1 : ¬ x.1 = (1 : Int) := by simp only [El] at *; omega
        have d2 : ¬ x.1 = (2 : Int) := by simp only [El] at *; omega
        have d3 : ¬ x.1 = (3 : Int) := by simp only [El] at *; omega
        have d4 : ¬ x.1 = (4 : Int) := by simp only [El] at *; omega
        have d5 : ¬ x.1 = (5 : Int) := by simp only [El] at *; omega
        have hc : chkn x = false := by rw [hd]; simp only [c, decide_false, Bool.false_and]
        simp [d1, d2, d3, d4, d5, hc, e2]
    · have c3' : ((x.2.length : Nat) : Int) > (20 : Int) := by omega
      have c4 : ¬ ((x.2.length : Nat) : Int) = 0 := by omega
      have hc : chkn x = false := by simp [chkn, c3]
      have c5 : ¬ x.2 = [] := by intro h; rw [h] at c3; simp at c3
      simp [c3', c4, c5, hc, e2]
theorem F19_eq (K : Nat) (hK : 2000 ≤ K) (d : Dep) : F19 K d = some (e2 (chkd d)) := by
  simp only [F19, G19, t19, decide_eq_true_eq]
  by_cases c1 : d.2.length ≤ 20
  · have c1' : ¬ ((d.2.length : Nat) : Int) > (20 : Int) := by omega
    have e : L19_0 K d K 0 = some (e2 (d.2.all chkn)) := L19_eq K hK d c1 K [] d.2 rfl (by omega)
    simp only [c1', e, if_false]
    by_cases c2 : d.1 = true
    · by_cases c3 : d.2.length < 2
      · have c3' : ((d.2.length : Nat) : Int) ≤ (1 : Int) := by omega
        have hc : chkd d = false := by simp [chkd, c2, c3]
        simp [c2, c3', hc, e2]
      · have c3' : ¬ ((d.2.length : Nat) : Int) ≤ (1 : Int) := by omega
        have hc : chkd d = d.2.all chkn := by simp [chkd, c1, c3]
        simp only [c2, c3', hc, if_true, if_false]
    · have hc : chkd d = d.2.all chkn := by simp [chkd, c1, c2]
      simp only [c2, hc, if_false]
      rfl
  · have c1' : ((d.2.length : Nat) : Int) > (20 : Int) := by omega
    have hc : chkd d = false := by simp [chkd, c1]
    simp [c1', hc, e2]
/-! ### how a job is -/
abbrev Wh := El T70
def hows : List Wh → Int → Int
  | [], _ => 0
  | x :: l, a => if x.1 = a then (if (1 : Int) ≤ x.2 ∧ x.2 ≤ (4 : Int) then x.2 else 0) else hows l a
theorem hows_in : ∀ (l : List Wh) (a : Int), 0 ≤ hows l a ∧ hows l a ≤ 4
  | [], a => by simp [hows]
  | x :: l, a => by
    have := hows_in l a
    simp only [hows, El] at *
    (repeat' split) <;> omega
theorem L42_eq (K : Nat) (l : List Wh) (a : Int) (hl : l.length ≤ 1000) : ∀ (n : Nat) (pre suf : List Wh), l = pre ++ suf → suf.length < n →
    L42_0 K l a n (pre.length : Int) = some (hows suf a)
  | 0, pre, suf, e, h => by omega
  | n + 1, pre, [], e, h => by
    have := fin e
    simp only [L42_0, b42_0, this.1, hows]
    rfl
  | n + 1, pre, x :: xs, e, h => by
    obtain ⟨h1, h2, h3, h4, h5, h6⟩ := mid e (zEl T70) (by omega)
    have ih := L42_eq K l a hl n (pre ++ [x]) xs h5 (by simpa using h)
    simp only [L42_0, b42_0, h1, h2, h3, h4, ih, if_true, hows, El, beq_iff_eq, decide_eq_true_eq]
    by_cases c : x.1 = a
    · by_cases c1 : (1 : Int) ≤ x.2
      · by_cases c2 : x.2 ≤ (4 : Int) <;> simp [c, c1, c2]
      · have c1' : ¬ x.2 ≥ (1 : Int) := c1
        simp [c, c1]
    · simp [c]
theorem F42_eq (K : Nat) (hK : 2000 ≤ K) (l : List Wh) (a : Int) (hl : l.length ≤ 1000) : F42 K l a = some (hows l a) := L42_eq K l a hl K [] l rfl (by omega)
theorem F51_eq (K : Nat) (x : Wh) (a : Int) : F51 K x a = some (x.1 == a) := rfl
theorem L50_eq (K : Nat) (l : List Wh) (a : Int) (hl : l.length ≤ 1000) : ∀ (n : Nat) (pre suf : List Wh), l = pre ++ suf → suf.length < n →
    ∃ r : Int, L50_0 (F51 K) K l a n (pre.length : Int) = some r ∧ (r < 0 ∧ hows suf a = 0 ∨ 0 ≤ r ∧ r < (l.length : Int) ∧ hows suf a = (if (1 : Int) ≤ (l.getD r.toNat (zEl T70)).2 ∧ (l.getD r.toNat (zEl T70)).2 ≤ (4 : Int) then (l.getD r.toNat (zEl T70)).2 else 0))
  | 0, pre, suf, e, h => by omega
  | n + 1, pre, [], e, h => by
    have := fin e
    refine ⟨-1, ?_, .inl ⟨by omega, rfl⟩⟩
    simp only [L50_0, b50_0, this.1]
    simp
  | n + 1, pre, x :: xs, e, h => by
    obtain ⟨h1, h2, h3, h4, h5, h6⟩ := mid e (zEl T70) (by omega)
    obtain ⟨r, ih, hr⟩ := L50_eq K l a hl n (pre ++ [x]) xs h5 (by simpa using h)
    simp only [L50_0, b50_0, h1, h2, h3, h4, ih, if_true, El, F51_eq, Option.bind_some, beq_iff_eq, hows]
    by_cases c : x.1 = a
    · refine ⟨_, by rw [if_pos c], .inr ⟨by omega, h6, ?_⟩⟩
      rw [if_pos c, h3]
    · refine ⟨r, by rw [if_neg c], ?_⟩
      rw [if_neg c]
      exact hr
theorem F45_eq (K : Nat) (hK : 2000 ≤ K) (l : List Wh) (a : Int) (hl : l.length ≤ 1000) : F45 K l a = some (hows l a) := by
  obtain ⟨r, h1, h2⟩ := L50_eq K l a hl K [] l rfl (by omega)
  have h1' : F50 K l a = some r := h1
  simp only [F45, G45, t45, h1', Option.bind_some, decide_eq_true_eq]
  rcases h2 with ⟨h2, h3⟩ | ⟨h2, h3, h4⟩
  · rw [if_pos h2, h3]
  · rw [if_neg (by omega), h4]
    obtain ⟨y, hy⟩ : ∃ y, l.getD r.toNat (zEl T70) = y := ⟨_, rfl⟩
    simp only [hy, h2, h3, and_self, if_true, El]
    by_cases c1 : y.2 < (1 : Int)
    · have c1' : ¬ (1 : Int) ≤ y.2 := by simp only [El] at *; omega
      simp [c1, c1']
    · have c1' : (1 : Int) ≤ y.2 := by simp only [El] at *; omega
      by_cases c2 : y.2 > (4 : Int)
      · have c2' : ¬ y.2 ≤ (4 : Int) := by simp only [El] at *; omega
        simp [c1, c1', c2, c2']
      · have c2' : y.2 ≤ (4 : Int) := by simp only [El] at *; omega
        simp [c1, c1', c2, c2']

/-! ### what a job says -/
def onef (k h : Int) : Int := if h = 0 then 3 else if h = 1 then 1 else if h = 2 ∧ k ≠ 1 then 1 else if k = 2 ∧ h = 4 then 3 else if k = 3 ∧ h = 3 then 3 else 2
theorem onef_in (k h : Int) : onef k h = 1 ∨ onef k h = 2 ∨ onef k h = 3 := by
  unfold onef
  (repeat' split) <;> simp
theorem F44_eq (K : Nat) (k h : Int) : F44 K k h = some (onef k h) := by
  simp only [F44, G44, t44, onef, beq_iff_eq, bne_iff_ne]
  (repeat' split) <;> first | rfl | (exfalso; omega)
theorem F41_eq (K : Nat) (k h : Int) (h1 : 1 ≤ k) (h2 : k ≤ 4) (h3 : 0 ≤ h) (h4 : h ≤ 4) : F41 K k h = some (onef k h) := by
  have hk : k = 1 ∨ k = 2 ∨ k = 3 ∨ k = 4 := by omega
  have hh : h = 0 ∨ h = 1 ∨ h = 2 ∨ h = 3 ∨ h = 4 := by omega
  rcases hk with rfl | rfl | rfl | rfl <;> rcases hh with rfl | rfl | rfl | rfl | rfl <;> rfl
def allf (l : List Int) : Int := if (3 : Int) ∈ l then 3 else if (1 : Int) ∈ l then 1 else 2
theorem F46_eq (K : Nat) (l : List Int) (hl : l.length < K) (hl' : l.length ≤ 100000) : F46 K l = some (allf l) := by
  simp only [F46, G46, t46, F47_eq K l _ hl hl', Option.bind_some, decide_eq_true_eq, allf]
  (repeat' split) <;> rfl
def needJobs (l : List Wh) (al : Bool) (n : Need) : List Int := n.2.map (fun j => onef n.1 (hows l j)) ++ (if n.1 = (5 : Int) ∧ al = false then [1] else [])
def needSay (l : List Wh) (al : Bool) (n : Need) : Int := allf (needJobs l al n)
def sayF (any : Bool) (s : List Int) : Int := if any = true then (if (2 : Int) ∈ s then 2 else if (1 : Int) ∈ s then 1 else 3) else allf s
def sayD (d : Dep) (l : List Wh) (al : Bool) : Int := if chkd d = true then sayF d.1 (d.2.map (needSay l al)) else 0
theorem by3 : Try.prog.types[(3 : Nat)].bytes = 8 := by kernel_rfl
theorem chkd_len {d : Dep} (h : chkd d = true) : d.2.length ≤ 20 ∧ ∀ n ∈ d.2, chkn n = true := by
  simp only [chkd, Bool.and_eq_true, decide_eq_true_eq, List.all_eq_true] at h
  exact ⟨h.1.1, h.2⟩
theorem chkn_len {n : Need} (h : chkn n = true) : n.2.length ≤ 20 ∧ (1 : Int) ≤ n.1 ∧ n.1 ≤ (5 : Int) ∧ (n.1 = (5 : Int) ↔ n.2.length = 0) := by
  simp only [chkn, Bool.and_eq_true, decide_eq_true_eq, beq_iff_eq] at h
  exact ⟨h.1.2, h.1.1.1.1, h.1.1.1.2, by have := h.1.1.2; simpa using this⟩

theorem L38_1_eq (K : Nat) (hK : 2000 ≤ K) (d : Dep) (l : List Wh) (al : Bool) (hl : l.length ≤ 1000) (r0 : Int → List Int → Option Int) (i : Int) (x : Need) (hx : x.2.length ≤ 20) (ac : List Int) (hac : ac.length ≤ 20) :
    ∀ (n : Nat) (pre suf : List Int) (js : List Int), x.2 = pre ++ suf → suf.length < n → js.length = pre.length →
    L38_1 (F43 K) (F45 K) (F44 K) (F46 K) (F47 K) K d l al r0 n i x.2 (x.2.length : Int) (pre.length : Int) x js ac
      = r0 (IntKind.i64.wrap (i + (1 : Int))) (ac ++ [allf (js ++ suf.map (fun j => onef x.1 (hows l j)) ++ (if x.1 = (5 : Int) ∧ al = false then [1] else []))])
  | 0, pre, suf, js, e, h, hj => by omega
  | n + 1, pre, [], js, e, h, hj => by
    have := fin e
    have hp : pre.length ≤ 20 := by rw [this.2]; exact hx
    have b1 : ∀ (ls : List Int), ls.length ≤ 22 → ∀ y : Int, decide ((ls.length + [y].length) * Try.prog.types[(3 : Nat)].bytes ≤ (140737488355328 : Nat)) = true := by
      intro ls h y
      rw [by3]; simp only [List.length_singleton, decide_eq_true_eq]; omega
    simp only [L38_1, b38_1, this.1, El, beq_iff_eq]
    rw [F46_eq K (js ++ [1]) (by simp; omega) (by simp; omega), F46_eq K js (by omega) (by omega)]
    simp only [Option.bind_some, b1 js (by omega), b1 ac (by omega), if_true]
    by_cases c1 : x.1 = (5 : Int)
    · cases al <;> simp [c1]
    · simp [c1]
  | n + 1, pre, y :: ys, js, e, h, hj => by
    obtain ⟨h1, h2, h3, h4, h5, h6⟩ := mid e (zEl (Ty.int IntKind.u32)) (by omega)
    have ih := L38_1_eq K hK d l al hl r0 i x hx ac hac n (pre ++ [y]) ys (js ++ [onef x.1 (hows l y)]) h5 (by simpa using h) (by simp [hj])
    have b1 : decide ((js.length + [onef x.1 (hows l y)].length) * Try.prog.types[(3 : Nat)].bytes ≤ (140737488355328 : Nat)) = true := by
      rw [by3]; simp only [List.length_singleton, decide_eq_true_eq]; omega
    simp only [L38_1, b38_1, h1, h2, h3, h4, F45_eq K hK l _ hl, F44_eq, Option.bind_some, b1, if_true]
    rw [ih]
    simp
theorem L38_2_eq (K : Nat) (hK : 2000 ≤ K) (d : Dep) (l : List Wh) (al : Bool) (s : List Int) (hs : s.length ≤ 1000) (n : Nat) :
    L38_2 (F43 K) (F45 K) (F44 K) (F46 K) (F47 K) K d l al (n + 3) 0 s = some (if (2 : Int) ∈ s then 2 else if (1 : Int) ∈ s then 1 else 3) := by
  have e1 : IntKind.i64.wrap ((0 : Int) + 1) = 1 := by rw [i64_in] <;> omega
  have e2 : IntKind.i64.wrap ((1 : Int) + 1) = 2 := by rw [i64_in] <;> omega
  simp only [L38_2, b38_2, F47_eq K s _ (by omega) (by omega), Option.bind_some, e1, e2]
  by_cases c1 : (2 : Int) ∈ s
  · simp [c1]
  · by_cases c2 : (1 : Int) ∈ s
    · simp [c1, c2]
    · simp [c1, c2]
theorem L38_eq (K : Nat) (hK : 2000 ≤ K) (d : Dep) (l : List Wh) (al : Bool) (hl : l.length ≤ 1000) (hd : chkd d = true) : ∀ (n : Nat) (pre suf : List Need) (ac : List Int), d.2 = pre ++ suf → suf.length < n → ac.length = pre.length →
    L38_0 (F43 K) (F45 K) (F44 K) (F46 K) (F47 K) K d l al n (pre.length : Int) ac = some (sayF d.1 (ac ++ suf.map (needSay l al)))
  | 0, pre, suf, ac, e, h, hj => by omega
  | n + 1, pre, [], ac, e, h, hj => by
    have := fin e
    have hp : pre.length ≤ 20 := by rw [this.2]; exact (chkd_len hd).1
    obtain ⟨m, rfl⟩ : ∃ m, K = m + 3 := ⟨K - 3, by omega⟩
    simp only [L38_0, b38_0, this.1, L38_2_eq (m + 3) hK d l al ac (by omega) m, F46_eq (m + 3) ac (by omega) (by omega), Option.bind_some, sayF, List.map_nil, List.append_nil]
    cases d.1 <;> simp
  | n + 1, pre, x :: xs, ac, e, h, hj => by
    have hd' := chkd_len hd
    have hx := chkn_len (hd'.2 x (by rw [e]; simp))
    obtain ⟨h1, h2, h3, h4, h5, h6⟩ := mid e (zEl T54) (by omega)
    have hp : pre.length ≤ 20 := by have := hd'.1; omega
    have ih := L38_eq K hK d l al hl hd n (pre ++ [x]) xs (ac ++ [needSay l al x]) h5 (by simpa using h) (by simp [hj])
    have inner := L38_1_eq K hK d l al hl (L38_0 (F43 K) (F45 K) (F44 K) (F46 K) (F47 K) K d l al n) (pre.length : Int) x hx.1 ac (by omega) K [] x.2 [] rfl (by omega) rfl
    simp only [List.length_nil, List.nil_append] at inner
    simp only [L38_0, b38_0, h1, h2, h3, if_true]
    refine Eq.trans inner ?_
    rw [h4]
    refine Eq.trans ih ?_
    simp
theorem F38_eq (K : Nat) (hK : 2000 ≤ K) (d : Dep) (l : List Wh) (al : Bool) (hl : l.length ≤ 1000) : F38 K d l al = some (sayD d l al) := by
  simp only [F38, G38, t38, F43_eq K hK d, Option.bind_some, sayD, e2_ne]
  cases hd : chkd d with
  | false => simp
  | true =>
    have := L38_eq K hK d l al hl hd K [] d.2 [] rfl (by have := (chkd_len hd).1; omega) rfl
    simpa using this

/-! ### the document's answer -/
def upS (s x : Int) : Int := if x = 3 then x else if x = 1 then (if s ≠ 3 then x else s) else s
def foldS (k : Int) (l : List Wh) : List Int → Int → Int
  | [], s => s
  | j :: js, s => foldS k l js (upS s (onef k (hows l j)))
theorem foldS_eq (k : Int) (l : List Wh) : ∀ (js : List Int) (s : Int), s = 1 ∨ s = 2 ∨ s = 3 → foldS k l js s = allf (s :: js.map (fun j => onef k (hows l j)))
  | [], s, h => by rcases h with rfl | rfl | rfl <;> rfl
  | j :: js, s, h => by
    have hj := onef_in k (hows l j)
    simp only [foldS]
    rw [foldS_eq k l js _ (by unfold upS; rcases h with rfl | rfl | rfl <;> rcases hj with hj | hj | hj <;> rw [hj] <;> simp)]
    simp only [List.map_cons, allf, List.mem_cons, upS]
    rcases h with rfl | rfl | rfl <;> rcases hj with hj | hj | hj <;> rw [hj] <;> simp
theorem allf_two (l : List Int) : allf ((2 : Int) :: l) = allf l := by simp [allf]
theorem allf_in (l : List Int) : allf l = 1 ∨ allf l = 2 ∨ allf l = 3 := by
  unfold allf
  (repeat' split) <;> simp
def cntv (k : Int) : List Int → Int
  | [] => 0
  | x :: l => (if x = k then 1 else 0) + cntv k l
theorem cntv_in (k : Int) : ∀ l : List Int, 0 ≤ cntv k l ∧ cntv k l ≤ l.length
  | [] => by simp [cntv]
  | x :: l => by
    have := cntv_in k l
    simp only [cntv, List.length_cons]
    split <;> omega
theorem cntv_pos (k : Int) : ∀ l : List Int, cntv k l = 0 ↔ ¬ k ∈ l
  | [] => by simp [cntv]
  | x :: l => by
    have h := cntv_pos k l
    have := cntv_in k l
    simp only [cntv, List.mem_cons, not_or]
    by_cases c : x = k
    · rw [if_pos c]
      constructor
      · intro h; omega
      · intro h; exact absurd c.symm h.1
    · rw [if_neg c, Int.zero_add, h]
      exact ⟨fun h => ⟨fun e => c e.symm, h⟩, fun h => h.2⟩
theorem L37_1_eq (K : Nat) (hK : 2000 ≤ K) (d : Dep) (l : List Wh) (al : Bool) (hl : l.length ≤ 1000) (r0 : Int → Int → Int → Int → Option Int) (a b c i : Int) (x : Need) (hx : chkn x = true) :
    ∀ (n : Nat) (pre suf : List Int) (s : Int), x.2 = pre ++ suf → suf.length < n →
    L37_1 (F19 K) (F42 K) (F41 K) K d l al r0 n a b c i s (pre.length : Int) x
      = (if foldS x.1 l suf s = 1 then r0 a (IntKind.i64.wrap (b + 1)) c (IntKind.i64.wrap (i + 1)) else if foldS x.1 l suf s = 2 then r0 a b (IntKind.i64.wrap (c + 1)) (IntKind.i64.wrap (i + 1)) else r0 (IntKind.i64.wrap (a + 1)) b c (IntKind.i64.wrap (i + 1)))
  | 0, pre, suf, s, e, h => by omega
  | n + 1, pre, [], s, e, h => by
    have := fin e
    simp only [L37_1, b37_1, this.1, foldS]
    by_cases q1 : s = 1
    · simp [q1]
    · by_cases q2 : s = 2
      · simp [q2]
      · simp [q1, q2]
  | n + 1, pre, y :: ys, s, e, h => by
    have hx' := chkn_len hx
    obtain ⟨h1, h2, h3, h4, h5, h6⟩ := mid e (zEl (Ty.int IntKind.u32)) (by omega)
    have ih := fun s => L37_1_eq K hK d l al hl r0 a b c i x hx n (pre ++ [y]) ys s h5 (by simpa using h)
    have hh := hows_in l y
    have h5' : ¬ x.1 = (5 : Int) := by
      intro h
      have := hx'.2.2.2.1 h
      rw [e] at this
      simp at this
    have h4' : x.1 ≤ (4 : Int) := by have := hx'.2.2.1; simp only [El] at *; omega
    simp only [L37_1, b37_1, h1, h2, h3, h4, F42_eq K hK l _ hl, F41_eq K x.1 (hows l y) hx'.2.1 h4' hh.1 hh.2, Option.bind_some, if_true, ih, foldS, upS, beq_iff_eq, bne_iff_ne]
    rcases onef_in x.1 (hows l y) with ho | ho | ho
    · by_cases c3 : s = 3 <;> simp [ho, c3]
    · simp [ho]
    · simp [ho]
def finR (any : Bool) (a b c : Int) : Int := if any = true then (if c > 0 then 2 else if b > 0 then 1 else 3) else if a = 0 then (if b = 0 then 2 else 1) else 3
theorem finR_eq (any : Bool) (s : List Int) (hs : ∀ x ∈ s, x = 1 ∨ x = 2 ∨ x = 3) : finR any (cntv 3 s) (cntv 1 s) (cntv 2 s) = sayF any s := by
  have i1 := cntv_in 1 s
  have i2 := cntv_in 2 s
  have i3 := cntv_in 3 s
  have p1 := cntv_pos 1 s
  have p2 := cntv_pos 2 s
  have p3 := cntv_pos 3 s
  unfold finR sayF allf
  cases any with
  | true =>
    simp only [if_true]
    by_cases c2 : (2 : Int) ∈ s
    · rw [if_pos c2, if_pos]; have hq : ¬ cntv 2 s = 0 := fun e => (p2.1 e) c2
      omega
    · rw [if_neg c2, if_neg (by have := p2.2 c2; omega)]
      by_cases c1 : (1 : Int) ∈ s
      · rw [if_pos c1, if_pos]; have hq : ¬ cntv 1 s = 0 := fun e => (p1.1 e) c1
        omega
      · rw [if_neg c1, if_neg (by have := p1.2 c1; omega)]
  | false =>
    simp only [p1, p3]
    by_cases c3 : (3 : Int) ∈ s
    · simp [c3]
    · by_cases c1 : (1 : Int) ∈ s <;> simp [c1, c3]
theorem L37_eq (K : Nat) (hK : 2000 ≤ K) (d : Dep) (l : List Wh) (al : Bool) (hl : l.length ≤ 1000) (hd : chkd d = true) : ∀ (n : Nat) (pre suf : List Need) (a b c : Int), d.2 = pre ++ suf → suf.length < n →
    0 ≤ a → a ≤ pre.length → 0 ≤ b → b ≤ pre.length → 0 ≤ c → c ≤ pre.length →
    L37_0 (F19 K) (F42 K) (F41 K) K d l al n a b c (pre.length : Int) = some (finR d.1 (a + cntv 3 (suf.map (needSay l al))) (b + cntv 1 (suf.map (needSay l al))) (c + cntv 2 (suf.map (needSay l al))))
  | 0, pre, suf, a, b, c, e, h, _, _, _, _, _, _ => by omega
  | n + 1, pre, [], a, b, c, e, h, a0, a1, b0, b1, c0, c1 => by
    have := fin e
    simp only [L37_0, b37_0, this.1, List.map_nil, cntv, Int.add_zero, finR, beq_iff_eq, decide_eq_true_eq]
    cases d.1 with
    | true =>
      by_cases q1 : c > 0
      · simp [q1]
      · by_cases q2 : b > 0
        · simp [q1, q2]
        · simp [q1, q2]
    | false =>
      by_cases q1 : a = 0
      · by_cases q2 : b = 0
        · simp [q1, q2]
        · simp [q1, q2]
      · simp [q1]
  | n + 1, pre, x :: xs, a, b, c, e, h, a0, a1, b0, b1, c0, c1 => by
    have hd' := chkd_len hd
    have hxc := hd'.2 x (by rw [e]; simp)
    have hx := chkn_len hxc
    obtain ⟨h1, h2, h3, h4, h5, h6⟩ := mid e (zEl T54) (by omega)
    have hlen : (((pre ++ [x]).length : Nat) : Int) = (pre.length : Int) + 1 := by simp
    have hp : pre.length ≤ 20 := by have := hd'.1; omega
    have ih := fun a b c => L37_eq K hK d l al hl hd n (pre ++ [x]) xs a b c h5 (by simpa using h)
    rw [hlen] at ih
    have wa : IntKind.i64.wrap (a + 1) = a + 1 := i64_in (by omega) (by omega)
    have wb : IntKind.i64.wrap (b + 1) = b + 1 := i64_in (by omega) (by omega)
    have wc : IntKind.i64.wrap (c + 1) = c + 1 := i64_in (by omega) (by omega)
    have inner := fun s => L37_1_eq K hK d l al hl (L37_0 (F19 K) (F42 K) (F41 K) K d l al n) a b c (pre.length : Int) x hxc K [] x.2 s rfl (by omega)
    have e1 : (if x.1 = (5 : Int) ∧ al = false then [(1 : Int)] else []) = (if x.1 = (5 : Int) ∧ al = false then [(1 : Int)] else []) := rfl
    have key : ∀ s, foldS x.1 l x.2 s = needSay l al x → s = 1 ∨ s = 2 ∨ s = 3 → L37_1 (F19 K) (F42 K) (F41 K) K d l al (L37_0 (F19 K) (F42 K) (F41 K) K d l al n) K a b c (pre.length : Int) s 0 x = some (finR d.1 (a + cntv 3 (needSay l al x :: xs.map (needSay l al))) (b + cntv 1 (needSay l al x :: xs.map (needSay l al))) (c + cntv 2 (needSay l al x :: xs.map (needSay l al)))) := by
      intro s hs hs'
      refine Eq.trans (inner s) ?_
      rw [hs, wa, wb, wc, h4, hlen]
      rcases allf_in (needJobs l al x) with q | q | q
      · have q' : needSay l al x = 1 := q
        rw [q', if_pos rfl, ih a (b + 1) c (by omega) (by omega) (by omega) (by omega) (by omega) (by omega)]
        simp [cntv, Int.add_assoc]
      · have q' : needSay l al x = 2 := q
        rw [q', if_neg (by omega), if_pos rfl, ih a b (c + 1) (by omega) (by omega) (by omega) (by omega) (by omega) (by omega)]
        simp [cntv, Int.add_assoc]
      · have q' : needSay l al x = 3 := q
        rw [q', if_neg (by omega), if_neg (by omega), ih (a + 1) b c (by omega) (by omega) (by omega) (by omega) (by omega) (by omega)]
        simp [cntv, Int.add_assoc]
    simp only [L37_0, b37_0, h1, h2, h3, if_true, El, beq_iff_eq, List.map_cons]
    by_cases c5 : x.1 = (5 : Int)
    · have hn : x.2 = [] := List.eq_nil_of_length_eq_zero (hx.2.2.2.1 c5)
      cases al with
      | false =>
        have := key 1 (by simp [needSay, needJobs, c5, hn, foldS, allf]) (by simp)
        simpa [c5] using this
      | true =>
        have := key 2 (by simp [needSay, needJobs, c5, hn, foldS, allf]) (by simp)
        simpa [c5] using this
    · have := key 2 (by rw [foldS_eq _ _ _ _ (by simp), allf_two]; simp [needSay, needJobs, c5]) (by simp)
      simpa [c5] using this
theorem F37_eq (K : Nat) (hK : 2000 ≤ K) (d : Dep) (l : List Wh) (al : Bool) (hl : l.length ≤ 1000) : F37 K d l al = some (sayD d l al) := by
  simp only [F37, G37, t37, F19_eq K hK d, Option.bind_some, sayD, e2_ne]
  cases hd : chkd d with
  | false => simp
  | true =>
    have := L37_eq K hK d l al hl hd K [] d.2 0 0 0 rfl (by have := (chkd_len hd).1; omega) (by omega) (by simp) (by omega) (by simp) (by omega) (by simp)
    rw [Int.zero_add, Int.zero_add, Int.zero_add, finR_eq _ _ (by
      intro y hy
      obtain ⟨q, _, rfl⟩ := List.mem_map.1 hy
      exact allf_in _)] at this
    simpa using this
end Go.Proofs.YthebmlpohkfhbaaE
