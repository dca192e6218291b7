/- Depend: the document's answer. -/
import Derived.Test.YtigekmmdflaeaaaDoorP08E
set_option linter.all false
namespace Go.Proofs.YtigekmmdflaeaaaDoorE
open Go Go.Proofs
set_option maxRecDepth 100000
set_option linter.unusedVariables false
theorem L43_eq (K : Nat) (l : List Wh) (j : Int) (hl : l.length ≤ 100000) : ∀ (n : Nat) (pre suf : List Wh), l = pre ++ suf → suf.length < n → L43_0 K l j n (pre.length : Int) = some (howP suf j)
  | 0, pre, suf, e, h => by omega
  | n + 1, pre, [], e, h => by
    have hf := fin e
    simp only [L43_0, b43_0, hf.1, Bool.false_eq_true, if_false]
    rfl
  | n + 1, pre, w :: suf, e, h => by
    obtain ⟨h1, h2, h3, h4, h5, h6⟩ := mid e (zEl T54) (by omega)
    simp only [L43_0, b43_0, h1, h2, if_true, h3, h4]
    by_cases c : (w.1 : Int) = j
    · rw [if_pos (beq_iff_eq.2 c)]
      have e2 : howP (w :: suf) j = (if (w.2 : Int) < 1 ∨ (4 : Int) < w.2 then 0 else w.2) := by rw [howP, if_pos c]
      rw [e2]
      by_cases c1 : (w.2 : Int) ≥ 1
      · rw [if_pos (decide_eq_true c1)]
        by_cases c2 : (w.2 : Int) ≤ 4
        · rw [if_pos (decide_eq_true c2)]
          exact (congrArg some (if_neg (show ¬ ((w.2 : Int) < 1 ∨ (4 : Int) < w.2) from fun h => Or.elim h (fun h => absurd c1 (Int.not_le.2 h)) (fun h => absurd c2 (Int.not_le.2 h))))).symm
        · rw [if_neg (by rw [decide_eq_false c2]; decide)]
          exact (congrArg some (if_pos (show (w.2 : Int) < 1 ∨ (4 : Int) < w.2 from .inr (Int.not_le.1 c2)))).symm
      · rw [if_neg (by rw [decide_eq_false c1]; decide)]
        exact (congrArg some (if_pos (show (w.2 : Int) < 1 ∨ (4 : Int) < w.2 from .inl (Int.not_le.1 c1)))).symm
    · rw [if_neg (fun h => c (beq_iff_eq.1 h))]
      have e2 : howP (w :: suf) j = howP suf j := by rw [howP, if_neg c]
      rw [e2]
      exact L43_eq K l j hl n (pre ++ [w]) suf h5 (by simpa using h)
theorem F43_eq (K : Nat) (l : List Wh) (j : Int) (hK : l.length < K) (hl : l.length ≤ 100000) : F43 K l j = some (howP l j) := L43_eq K l j hl K [] l rfl hK
theorem howP_r (j : Int) : ∀ l : List Wh, 0 ≤ howP l j ∧ howP l j ≤ 4
  | [] => ⟨Int.le_refl _, show (0 : Int) ≤ 4 by decide⟩
  | w :: l => by
    unfold howP
    split
    · split
      · exact ⟨Int.le_refl _, show (0 : Int) ≤ 4 by decide⟩
      · rename_i h
        rw [not_or] at h
        exact ⟨Int.le_trans (by decide) (Int.not_lt.1 h.1), Int.not_lt.1 h.2⟩
    · exact howP_r j l
theorem F42_eq (K : Nat) (k h : Int) (hk : 1 ≤ k ∧ k ≤ 4) (hh : 0 ≤ h ∧ h ≤ 4) : F42 K k h = some (oneP k h) := by
  have h1 : k = 1 ∨ k = 2 ∨ k = 3 ∨ k = 4 := by omega
  have h2 : h = 0 ∨ h = 1 ∨ h = 2 ∨ h = 3 ∨ h = 4 := by omega
  rcases h1 with rfl | rfl | rfl | rfl <;> rcases h2 with rfl | rfl | rfl | rfl | rfl <;> rfl
/-! ### the document's check -/
theorem L18_1_eq (K : Nat) (d : El T24) (r0 : Int → Option Int) (i : Int) (x : Nd) (hx : (njobs x).length ≤ 1000) : ∀ (n : Nat) (pre suf : List Int), njobs x = pre ++ suf → suf.length < n →
    L18_1 K d r0 n i (pre.length : Int) x = if (0 : Int) ∈ suf then some 2 else r0 (IntKind.i64.wrap (i + (1 : Int)))
  | 0, pre, suf, e, h => by omega
  | n + 1, pre, [], e, h => by
    have hf := fin e
    rw [if_neg (by simp)]
    simp only [L18_1, b18_1, hf.1, Bool.false_eq_true, if_false]
  | n + 1, pre, y :: suf, e, h => by
    obtain ⟨h1, h2, h3, h4, h5, h6⟩ := mid e (zEl (Ty.int IntKind.u32)) (by omega)
    have h3' : List.getD x.2 ((pre.length : Int)).toNat (zEl (Ty.int IntKind.u32)) = y := h3
    simp only [L18_1, b18_1, h1, h2, if_true, h3', h4]
    by_cases c : y = 0
    · rw [if_pos (beq_iff_eq.2 c), if_pos (by rw [c]; exact List.mem_cons_self)]
    · rw [if_neg (fun h => c (beq_iff_eq.1 h)), L18_1_eq K d r0 i x hx n (pre ++ [y]) suf h5 (by simpa using h)]
      by_cases m : (0 : Int) ∈ suf
      · rw [if_pos m, if_pos (List.mem_cons_of_mem _ m)]
      · rw [if_neg m, if_neg (fun h => (List.mem_cons.1 h).elim (fun h => c h.symm) m)]
theorem L18_0_eq (K : Nat) (hK : 2000 ≤ K) (d : El T24) (hl : (nds d).length ≤ 20) : ∀ (n : Nat) (pre suf : List Nd), nds d = pre ++ suf → suf.length < n → L18_0 K d n (pre.length : Int) = some (ckv (suf.all okN))
  | 0, pre, suf, e, h => by omega
  | n + 1, pre, [], e, h => by
    have hf := fin e
    simp only [L18_0, b18_0, hf.1, Bool.false_eq_true, if_false, List.all_nil, ckv]
  | n + 1, pre, (k, js) :: suf, e, h => by
    obtain ⟨h1, h2, h3, h4, h5, h6⟩ := mid e (zEl T46) (by omega)
    have h3' : List.getD d.2 ((pre.length : Int)).toNat (zEl T46) = (k, js) := h3
    have ih := L18_0_eq K hK d hl n (pre ++ [(k, js)]) suf h5 (by simpa using h)
    have L := fun (hj : (njobs (k, js)).length ≤ 1000) (hK2 : (njobs (k, js)).length < K) => L18_1_eq K d (L18_0 K d n) (pre.length : Int) (k, js) hj K [] (njobs (k, js)) rfl hK2
    have bad : okN (k, js) = false → some (2 : Int) = some (ckv (((k, js) :: suf : List Nd).all okN)) := fun h => by
      rw [List.all_cons, h]; rfl
    have good : okN (k, js) = true → L18_0 K d n (IntKind.i64.wrap ((pre.length : Int) + 1)) = some (ckv (((k, js) :: suf : List Nd).all okN)) := fun h => by
      rw [List.all_cons, h, Bool.true_and, h4]; exact ih
    have A : (k = 1 ∨ k = 2 ∨ k = 3 ∨ k = 4) → (if (((List.length js : Nat) : Int) == (0 : Int)) = true then some (2 : Int) else (if decide (((List.length js : Nat) : Int) > (20 : Int)) = true then some (2 : Int) else L18_1 K d (L18_0 K d n) K (pre.length : Int) (0 : Int) (k, js))) = some (ckv (((k, js) :: suf : List Nd).all okN)) := fun hk => by
      have k5 : (k == (5 : Int)) = false := by rcases hk with rfl | rfl | rfl | rfl <;> rfl
      have k15 : decide ((1 : Int) ≤ k ∧ k ≤ 5) = true := by rcases hk with rfl | rfl | rfl | rfl <;> rfl
      by_cases c1 : ((List.length js : Nat) : Int) = 0
      · rw [if_pos (beq_iff_eq.2 c1)]
        refine bad ?_
        have : (((List.length js : Nat) : Int) == 0) = true := beq_iff_eq.2 c1
        show (decide ((1 : Int) ≤ k ∧ k ≤ 5) && ((k == 5) == (((List.length js : Nat) : Int) == 0)) && _ && _) = false
        rw [k5, this, show (false == true) = false from rfl, Bool.and_false, Bool.false_and, Bool.false_and]
      · have c1' : (((List.length js : Nat) : Int) == 0) = false := beq_eq_false_iff_ne.2 c1
        rw [if_neg (by rw [c1']; decide)]
        by_cases c2 : ((List.length js : Nat) : Int) > 20
        · rw [if_pos (decide_eq_true c2)]
          refine bad ?_
          have : decide (List.length js ≤ 20) = false := decide_eq_false (by omega)
          show (_ && _ && decide (List.length js ≤ 20) && _) = false
          rw [this, Bool.and_false, Bool.false_and]
        · rw [if_neg (by rw [decide_eq_false c2]; decide)]
          have hjl : (njobs (k, js)).length ≤ 20 := by show List.length js ≤ 20; omega
          refine (L (by omega) (by omega)).trans ?_
          have g2 : decide (List.length js ≤ 20) = true := decide_eq_true hjl
          by_cases m : (0 : Int) ∈ njobs (k, js)
          · rw [if_pos m]
            refine bad ?_
            show (_ && _ && _ && !decide ((0 : Int) ∈ njobs (k, js))) = false
            rw [decide_eq_true m, Bool.not_true, Bool.and_false]
          · rw [if_neg m]
            refine good ?_
            show (decide ((1 : Int) ≤ k ∧ k ≤ 5) && ((k == 5) == (((List.length js : Nat) : Int) == 0)) && decide (List.length js ≤ 20) && !decide ((0 : Int) ∈ njobs (k, js))) = true
            rw [k15, k5, c1', g2, decide_eq_false m]
            rfl
    simp only [L18_0, b18_0, h1, h2, if_true, h3']
    by_cases k1 : k = 1
    · rw [if_pos (beq_iff_eq.2 k1)]; exact A (.inl k1)
    rw [if_neg (fun h => k1 (beq_iff_eq.1 h))]
    by_cases k2 : k = 2
    · rw [if_pos (beq_iff_eq.2 k2)]; exact A (.inr (.inl k2))
    rw [if_neg (fun h => k2 (beq_iff_eq.1 h))]
    by_cases k3 : k = 3
    · rw [if_pos (beq_iff_eq.2 k3)]; exact A (.inr (.inr (.inl k3)))
    rw [if_neg (fun h => k3 (beq_iff_eq.1 h))]
    by_cases k4 : k = 4
    · rw [if_pos (beq_iff_eq.2 k4)]; exact A (.inr (.inr (.inr k4)))
    rw [if_neg (fun h => k4 (beq_iff_eq.1 h))]
    by_cases k5 : k = 5
    · subst k5
      rw [if_pos (show ((5 : Int) == 5) = true from rfl)]
      by_cases c1 : ((List.length js : Nat) : Int) = 0
      · rw [if_neg (fun h => (bne_iff_ne.1 h) c1)]
        have hj0 : js = [] := List.eq_nil_of_length_eq_zero (by omega)
        subst hj0
        refine (L (by show (0 : Nat) ≤ 1000; omega) (by show (0 : Nat) < K; omega)).trans ?_
        rw [if_neg (show ¬ (0 : Int) ∈ njobs (5, []) from fun h => by cases h)]
        exact good rfl
      · rw [if_pos (bne_iff_ne.2 c1)]
        refine bad ?_
        have : (((List.length js : Nat) : Int) == 0) = false := beq_eq_false_iff_ne.2 c1
        show (_ && (true == (((List.length js : Nat) : Int) == 0)) && _ && _) = false
        rw [this, show (true == false) = false from rfl, Bool.and_false, Bool.false_and, Bool.false_and]
    · rw [if_neg (fun h => k5 (beq_iff_eq.1 h))]
      refine bad ?_
      have : decide ((1 : Int) ≤ k ∧ k ≤ 5) = false := decide_eq_false (fun h => by
        have h7 : (1 : Int) ≤ k := h.1
        have h8 : k ≤ (5 : Int) := h.2
        have q1 : ¬ k = (1 : Int) := k1
        have q2 : ¬ k = (2 : Int) := k2
        have q3 : ¬ k = (3 : Int) := k3
        have q4 : ¬ k = (4 : Int) := k4
        have q5 : ¬ k = (5 : Int) := k5
        simp only [El] at *
        omega)
      show (decide ((1 : Int) ≤ k ∧ k ≤ 5) && _ && _ && _) = false
      rw [this, Bool.false_and, Bool.false_and, Bool.false_and]
theorem F18_eq (K : Nat) (hK : 2000 ≤ K) (d : El T24) : F18 K d = some (ckv (okD d)) := by
  unfold F18 G18 t18
  by_cases c1 : ((List.length d.2 : Nat) : Int) > 20
  · have : okD d = false := by
      have : decide (d.2.length ≤ 20) = false := decide_eq_false (by omega)
      simp only [okD, this, Bool.false_and]
    rw [if_pos (decide_eq_true c1), this]
    rfl
  rw [if_neg (by rw [decide_eq_false c1]; decide)]
  have g1 : decide (d.2.length ≤ 20) = true := decide_eq_true (by omega)
  have hL := L18_0_eq K hK d (by show List.length d.2 ≤ 20; omega) K [] (nds d) rfl (by show List.length d.2 < K; omega)
  cases ha : d.1 with
  | false =>
    rw [if_neg (by decide)]
    refine hL.trans ?_
    simp only [okD, g1, ha, Bool.not_false, Bool.true_or, Bool.true_and]
  | true =>
    rw [if_pos rfl]
    by_cases c2 : ((List.length d.2 : Nat) : Int) ≤ 1
    · have : okD d = false := by
        have : decide (2 ≤ d.2.length) = false := decide_eq_false (by omega)
        simp only [okD, this, ha, Bool.not_true, Bool.or_false, Bool.and_false, Bool.false_and]
      rw [if_pos (decide_eq_true c2), this]
      rfl
    · have g2 : decide (2 ≤ d.2.length) = true := decide_eq_true (by omega)
      rw [if_neg (by rw [decide_eq_false c2]; decide)]
      refine hL.trans ?_
      simp only [okD, g1, g2, ha, Bool.or_true, Bool.true_and]
end Go.Proofs.YtigekmmdflaeaaaDoorE
