/- Depend: what a dependency says, as plain functions. -/
import Derived.Test.YtigekmmdflaeaaaDoorP08A
set_option linter.all false
namespace Go.Proofs.YtigekmmdflaeaaaDoorE
open Go Go.Proofs
set_option maxRecDepth 100000
set_option linter.unusedVariables false
abbrev Nd := El T46
abbrev Wh := El T54
theorem L44_eq (K : Nat) (l : List Int) (x : Int) (hl : l.length ≤ 100000) : ∀ (n : Nat) (pre suf : List Int), l = pre ++ suf → suf.length < n → ∃ v : Int, L44_0 K l x n (pre.length : Int) = some v ∧ (0 ≤ v ↔ x ∈ suf)
  | 0, pre, suf, e, h => by omega
  | n + 1, pre, [], e, h => by
    have hf := fin e
    refine ⟨-1, ?_, by simp⟩
    simp only [L44_0, b44_0, hf.1, Bool.false_eq_true, if_false]
  | n + 1, pre, y :: suf, e, h => by
    obtain ⟨h1, h2, h3, h4, h5, h6⟩ := mid e (zEl (Ty.int IntKind.u32)) (by omega)
    have h3' : l.getD ((pre.length : Int)).toNat (zEl (Ty.int IntKind.u32)) = y := h3
    simp only [L44_0, b44_0, h1, h2, if_true, h3', h4]
    by_cases c : x = y
    · subst c
      rw [if_pos (beq_self_eq_true x)]
      exact ⟨_, rfl, by simp⟩
    · rw [if_neg (fun h => c (beq_iff_eq.1 h))]
      obtain ⟨v, hv, hi⟩ := L44_eq K l x hl n (pre ++ [y]) suf h5 (by simpa using h)
      exact ⟨v, hv, hi.trans ⟨fun h => List.mem_cons_of_mem _ h, fun h => (List.mem_cons.1 h).resolve_left c⟩⟩
theorem F25_eq (K : Nat) (l : List Int) (x : Int) (hK : l.length < K) (hl : l.length ≤ 100000) : F25 K l x = some (decide (x ∈ l)) := by
  obtain ⟨v, hv, hi⟩ := L44_eq K l x hl K [] l rfl hK
  have : F44 K l x = some v := hv
  simp only [F25, G25, t25, this, Option.bind_some]
  exact congrArg some (decide_eq_decide.2 hi)
theorem L56_eq (K : Nat) (l : List Int) (x : Int) (hl : l.length ≤ 100000) : ∀ (n : Nat) (pre suf : List Int), l = pre ++ suf → suf.length < n → ∃ v : Int, L56_0 K l x n (pre.length : Int) = some v ∧ (0 ≤ v ↔ x ∈ suf)
  | 0, pre, suf, e, h => by omega
  | n + 1, pre, [], e, h => by
    have hf := fin e
    refine ⟨-1, ?_, by simp⟩
    simp only [L56_0, b56_0, hf.1, Bool.false_eq_true, if_false]
  | n + 1, pre, y :: suf, e, h => by
    obtain ⟨h1, h2, h3, h4, h5, h6⟩ := mid e (zEl (Ty.int IntKind.i64)) (by omega)
    have h3' : l.getD ((pre.length : Int)).toNat (zEl (Ty.int IntKind.i64)) = y := h3
    simp only [L56_0, b56_0, h1, h2, if_true, h3', h4]
    by_cases c : x = y
    · subst c
      rw [if_pos (beq_self_eq_true x)]
      exact ⟨_, rfl, by simp⟩
    · rw [if_neg (fun h => c (beq_iff_eq.1 h))]
      obtain ⟨v, hv, hi⟩ := L56_eq K l x hl n (pre ++ [y]) suf h5 (by simpa using h)
      exact ⟨v, hv, hi.trans ⟨fun h => List.mem_cons_of_mem _ h, fun h => (List.mem_cons.1 h).resolve_left c⟩⟩
theorem F41_eq (K : Nat) (l : List Int) (x : Int) (hK : l.length < K) (hl : l.length ≤ 100000) : F41 K l x = some (decide (x ∈ l)) := by
  obtain ⟨v, hv, hi⟩ := L56_eq K l x hl K [] l rfl hK
  have : F56 K l x = some v := hv
  simp only [F41, G41, t41, this, Option.bind_some]
  exact congrArg some (decide_eq_decide.2 hi)
/-- what some say together -/
def all3 (l : List Int) : Int := if (3 : Int) ∈ l then 3 else if (1 : Int) ∈ l then 1 else 2
def any3 (l : List Int) : Int := if (2 : Int) ∈ l then 2 else if (1 : Int) ∈ l then 1 else 3
theorem F40_eq (K : Nat) (l : List Int) (hK : l.length < K) (hl : l.length ≤ 100000) : F40 K l = some (all3 l) := by
  simp only [F40, G40, t40, F41_eq K l _ hK hl, Option.bind_some, decide_eq_true_eq]
  unfold all3
  split
  · rfl
  · split <;> rfl
/-- how a job is -/
def howP : List Wh → Int → Int
  | [], _ => 0
  | w :: l, j => if (w.1 : Int) = j then (if (w.2 : Int) < 1 ∨ (4 : Int) < w.2 then 0 else w.2) else howP l j
theorem L54_eq (K : Nat) (l : List Wh) (j : Int) (hl : l.length ≤ 100000) : ∀ (n : Nat) (pre suf : List Wh), l = pre ++ suf → suf.length < n →
    (L54_0 (F55 K) K l j n (pre.length : Int) = some (-1) ∧ howP suf j = 0) ∨
    ∃ (p : List Wh) (w : Wh) (s : List Wh), l = p ++ w :: s ∧ L54_0 (F55 K) K l j n (pre.length : Int) = some (p.length : Int) ∧ howP suf j = (if (w.2 : Int) < 1 ∨ (4 : Int) < w.2 then 0 else w.2)
  | 0, pre, suf, e, h => by omega
  | n + 1, pre, [], e, h => by
    have hf := fin e
    refine .inl ⟨?_, rfl⟩
    simp only [L54_0, b54_0, hf.1, Bool.false_eq_true, if_false]
  | n + 1, pre, w :: suf, e, h => by
    obtain ⟨h1, h2, h3, h4, h5, h6⟩ := mid e (zEl T54) (by omega)
    have f55 : F55 K w j = some (w.1 == j) := rfl
    simp only [L54_0, b54_0, h1, h2, if_true, h3, h4, f55, Option.bind_some]
    by_cases c : (w.1 : Int) = j
    · rw [if_pos (beq_iff_eq.2 c)]
      refine .inr ⟨pre, w, suf, e, rfl, ?_⟩
      rw [howP, if_pos c]
    · rw [if_neg (fun h => c (beq_iff_eq.1 h))]
      have e2 : howP (w :: suf) j = howP suf j := by rw [howP, if_neg c]
      rw [e2]
      exact L54_eq K l j hl n (pre ++ [w]) suf h5 (by simpa using h)
theorem F39_eq (K : Nat) (l : List Wh) (j : Int) (hK : l.length < K) (hl : l.length ≤ 100000) : F39 K l j = some (howP l j) := by
  rcases L54_eq K l j hl K [] l rfl hK with ⟨h1, h2⟩ | ⟨p, w, s, e, h1, h2⟩
  · have : F54 K l j = some (-1) := h1
    have c : decide ((-1 : Int) < 0) = true := rfl
    simp only [F39, G39, t39, this, Option.bind_some, c, if_true, h2]
  · have : F54 K l j = some (p.length : Int) := h1
    obtain ⟨g1, g2, g3, g4, g5, g6⟩ := mid e (zEl T54) (by omega)
    have c : decide ((p.length : Int) < 0) = false := decide_eq_false (by omega)
    simp only [F39, G39, t39, this, Option.bind_some, c, Bool.false_eq_true, if_false, g2, if_true, g3, h2]
    by_cases c1 : (w.2 : Int) < 1
    · rw [if_pos (decide_eq_true c1)]
      exact (congrArg some (if_pos (show (w.2 : Int) < 1 ∨ (4 : Int) < w.2 from Or.inl c1))).symm
    · rw [if_neg (by rw [decide_eq_false c1]; decide)]
      by_cases c2 : (4 : Int) < w.2
      · rw [if_pos (decide_eq_true (show (w.2 : Int) > 4 from c2))]
        exact (congrArg some (if_pos (show (w.2 : Int) < 1 ∨ (4 : Int) < w.2 from Or.inr c2))).symm
      · rw [if_neg (by rw [decide_eq_false (show ¬ (w.2 : Int) > 4 from c2)]; decide)]
        exact (congrArg some (if_neg (show ¬ ((w.2 : Int) < 1 ∨ (4 : Int) < w.2) from fun h => Or.elim h c1 c2))).symm
/-- what a job says of a need -/
def oneP (k h : Int) : Int := if h = 0 then 3 else if h = 1 then 1 else if h = 2 ∧ k ≠ 1 then 1 else if k = 2 ∧ h = 4 then 3 else if k = 3 ∧ h = 3 then 3 else 2
theorem F38_eq (K : Nat) (k h : Int) : F38 K k h = some (oneP k h) := by
  simp only [F38, G38, t38, beq_iff_eq, bne_iff_ne, oneP]
  by_cases c0 : h = 0
  · simp [c0]
  by_cases c1 : h = 1
  · simp [c1]
  by_cases c2 : h = 2 <;> by_cases k1 : k = 1 <;> by_cases k2 : k = 2 <;> by_cases k3 : k = 3 <;> by_cases c3 : h = 3 <;> by_cases c4 : h = 4 <;> simp_all <;> omega
/-! ### may it be? -/
def okN (n : Nd) : Bool := decide ((1 : Int) ≤ n.1 ∧ (n.1 : Int) ≤ 5) && (((n.1 : Int) == 5) == ((n.2.length : Int) == 0)) && decide (n.2.length ≤ 20) && !decide ((0 : Int) ∈ (show List Int from n.2))
def okD (d : El T24) : Bool := decide (d.2.length ≤ 20) && (!d.1 || decide (2 ≤ d.2.length)) && d.2.all okN
def ckv : Bool → Int
  | true => 0
  | false => 2
theorem L13_eq (K : Nat) (hK : 200 ≤ K) (d : El T24) (hl : d.2.length ≤ 20) : ∀ (n : Nat) (pre suf : List Nd), d.2 = pre ++ suf → suf.length < n → L13_0 (F25 K) K d n (pre.length : Int) = some (ckv (suf.all okN))
  | 0, pre, suf, e, h => by omega
  | n + 1, pre, [], e, h => by
    have hf := fin e
    simp only [L13_0, b13_0, hf.1, Bool.false_eq_true, if_false, List.all_nil, ckv]
  | n + 1, pre, x :: suf, e, h => by
    obtain ⟨h1, h2, h3, h4, h5, h6⟩ := mid e (zEl T46) (by omega)
    have ih := L13_eq K hK d hl n (pre ++ [x]) suf h5 (by simpa using h)
    simp only [L13_0, b13_0, h1, h2, if_true, h3, h4, List.all_cons]
    by_cases c1 : (x.1 : Int) < 1
    · have : okN x = false := by
        have : decide ((1 : Int) ≤ x.1 ∧ (x.1 : Int) ≤ 5) = false := decide_eq_false (fun h => absurd h.1 (Int.not_le.2 c1))
        simp only [okN, this, Bool.false_and]
      rw [if_pos (decide_eq_true c1), this, Bool.false_and]
      rfl
    rw [if_neg (by rw [decide_eq_false c1]; decide)]
    by_cases c2 : (x.1 : Int) > 5
    · have : okN x = false := by
        have : decide ((1 : Int) ≤ x.1 ∧ (x.1 : Int) ≤ 5) = false := decide_eq_false (fun h => absurd h.2 (Int.not_le.2 c2))
        simp only [okN, this, Bool.false_and]
      rw [if_pos (decide_eq_true c2), this, Bool.false_and]
      rfl
    rw [if_neg (by rw [decide_eq_false c2]; decide)]
    have g1 : decide ((1 : Int) ≤ x.1 ∧ (x.1 : Int) ≤ 5) = true := decide_eq_true ⟨Int.not_lt.1 c1, Int.not_lt.1 c2⟩
    by_cases c3 : (((x.1 : Int) == 5) == ((x.2.length : Int) == 0)) = true
    · rw [if_neg (by rw [c3]; decide)]
      by_cases c4 : (x.2.length : Int) > 20
      · have : okN x = false := by
          have : decide (x.2.length ≤ 20) = false := decide_eq_false (by omega)
          simp only [okN, this, Bool.and_false, Bool.false_and]
        rw [if_pos (decide_eq_true c4), this, Bool.false_and]
        rfl
      rw [if_neg (by rw [decide_eq_false c4]; decide)]
      have g4 : decide (x.2.length ≤ 20) = true := decide_eq_true (by omega)
      rw [F25_eq K x.2 0 (by omega) (by omega), Option.bind_some]
      by_cases c5 : (0 : Int) ∈ (show List Int from x.2)
      · have : okN x = false := by simp only [okN, decide_eq_true c5, Bool.not_true, Bool.and_false]
        rw [if_pos (decide_eq_true c5), this, Bool.false_and]
        rfl
      · have : okN x = true := by simp only [okN, g1, c3, g4, decide_eq_false c5, Bool.not_false, Bool.and_self]
        rw [if_neg (by rw [decide_eq_false c5]; decide), this, Bool.true_and]
        exact ih
    · have c3' : (((x.1 : Int) == 5) == ((x.2.length : Int) == 0)) = false := by simpa using c3
      have : okN x = false := by simp only [okN, c3', Bool.and_false, Bool.false_and]
      rw [if_pos (by rw [c3']; rfl), this, Bool.false_and]
      rfl
theorem F13_eq (K : Nat) (hK : 200 ≤ K) (d : El T24) : F13 K d = some (ckv (okD d)) := by
  unfold F13 G13 t13
  by_cases c1 : ((List.length d.2 : Nat) : Int) > 20
  · have : okD d = false := by
      have : decide (d.2.length ≤ 20) = false := decide_eq_false (by omega)
      simp only [okD, this, Bool.false_and]
    rw [if_pos (decide_eq_true c1), this]
    rfl
  rw [if_neg (by rw [decide_eq_false c1]; decide)]
  have g1 : decide (d.2.length ≤ 20) = true := decide_eq_true (by omega)
  have hL := L13_eq K hK d (by omega) K [] d.2 rfl (by omega)
  cases ha : d.1 with
  | false =>
    rw [if_neg (by decide)]
    refine hL.trans ?_
    simp only [okD, g1, ha, Bool.not_false, Bool.true_or, Bool.true_and]
  | true =>
    rw [if_pos rfl]
    by_cases c2 : ((List.length d.2 : Nat) : Int) < 2
    · have : okD d = false := by
        have : decide (2 ≤ d.2.length) = false := decide_eq_false (by omega)
        simp only [okD, this, ha, Bool.not_true, Bool.or_false, Bool.and_false, Bool.false_and]
      rw [if_pos (decide_eq_true c2), this]
      rfl
    · have g2 : decide (2 ≤ d.2.length) = true := decide_eq_true (by omega)
      rw [if_neg (by rw [decide_eq_false c2]; decide)]
      refine hL.trans ?_
      simp only [okD, g1, g2, ha, Bool.or_true, Bool.true_and]
end Go.Proofs.YtigekmmdflaeaaaDoorE
