/- Gang: a matrix on which some acts were done; the small functions of the laws. -/
import Derived.Test.YtlpalhgiiodjoaaP16F
set_option linter.all false
namespace Go.Proofs.YtlpalhgiiodjoaaE
open Go Go.Proofs
set_option maxRecDepth 100000
set_option linter.unusedVariables false
theorem F16_eq (K : Nat) (hK : 2000 ≤ K) : F16 K = some true := by
  obtain ⟨k, rfl⟩ : ∃ k, K = k + 40 := ⟨K - 40, by omega⟩
  kernel_rfl
theorem F11_eq (K : Nat) (m : Mx) (hl : m.2.1.length ≤ 900) : F11 K m = some m.2.1 := by
  have f := fits34 (n := 0 + m.2.1.length) (by omega)
  have : F31 K m.2.1 = some m.2.1 := by
    simp only [F31, G31, t31, f, if_true]
    split
    · rename_i h
      rw [List.eq_nil_of_length_eq_zero h, both_same]
    · rfl
  simp only [F11, G11, t11, this, Option.bind_some]
theorem F14_eq (K : Nat) (m : Mx) : F14 K m = some m.2.2 := rfl
theorem L36_eq (K o : Nat) (ho : o ≤ 60) : ∀ (n d k : Nat), k + d = o → d < n → L36_0 K (o : Int) n ((2 ^ k : Nat) : Int) (k : Int) = some ((2 ^ o : Nat) : Int)
  | 0, d, k, e, h => by omega
  | n + 1, 0, k, e, h => by
    have g : decide ((k : Int) < (o : Int)) = false := decide_eq_false (by omega)
    have : k = o := by omega
    subst this
    simp only [L36_0, b36_0, g, Bool.false_eq_true, if_false]
  | n + 1, d + 1, k, e, h => by
    have g : decide ((k : Int) < (o : Int)) = true := decide_eq_true (by omega)
    have p : 2 ^ k ≤ 2 ^ 60 := Nat.pow_le_pow_right (by omega) (by omega)
    have e1 : IntKind.i64.wrap (((2 ^ k : Nat) : Int) * (2 : Int)) = ((2 ^ (k + 1) : Nat) : Int) := by
      rw [Nat.pow_succ]
      generalize 2 ^ k = x at *
      rw [i64_in] <;> omega
    have e2 : IntKind.i64.wrap ((k : Int) + (1 : Int)) = ((k + 1 : Nat) : Int) := by rw [i64_in] <;> omega
    simp only [L36_0, b36_0, g, if_true, e1, e2]
    exact L36_eq K o ho n d (k + 1) (by omega) (by omega)
theorem F36_eq (K : Nat) (hK : 2000 ≤ K) (o : Nat) (ho : o ≤ 60) : F36 K (o : Int) = some ((2 ^ o : Nat) : Int) := L36_eq K o ho K o 0 (by omega) (by omega)
/-- have two blocks a column in common? -/
def mtB (s o t p : Nat) : Bool := decide (s < t + 2 ^ p ∧ t < s + 2 ^ o)
theorem F15_eq (K : Nat) (hK : 2000 ≤ K) (s o t p : Nat) (ho : o ≤ 7) (hp : p ≤ 7) (hs : s ≤ 1000) (ht : t ≤ 1000) : F15 K ((s : Int), (o : Int)) ((t : Int), (p : Int)) = some (mtB s o t p) := by
  have a := p128 ho
  have b := p128 hp
  have a1 := Nat.two_pow_pos o
  have b1 := Nat.two_pow_pos p
  have e1 : IntKind.i64.wrap ((t : Int) + ((2 ^ p : Nat) : Int)) = ((t + 2 ^ p : Nat) : Int) := by rw [i64_in] <;> omega
  have e2 : IntKind.i64.wrap ((s : Int) + ((2 ^ o : Nat) : Int)) = ((s + 2 ^ o : Nat) : Int) := by rw [i64_in] <;> omega
  simp only [F15, G15, t15, F36_eq K hK p (by omega), F36_eq K hK o (by omega), Option.bind_some, e1, e2, decide_eq_true_eq, mtB]
  generalize 2 ^ p = x at *
  generalize 2 ^ o = y at *
  by_cases c1 : t ≤ s
  · rw [if_pos (show (s : Int) ≥ (t : Int) from Int.ofNat_le.2 c1)]
    by_cases c2 : s < t + x
    · rw [if_pos (show (s : Int) < ((t + x : Nat) : Int) from Int.ofNat_lt.2 c2), decide_eq_true (show s < t + x ∧ t < s + y from ⟨c2, by omega⟩)]
    · rw [if_neg (fun h : (s : Int) < ((t + x : Nat) : Int) => c2 (Int.ofNat_lt.1 h)), decide_eq_false (show ¬ (s < t + x ∧ t < s + y) from fun h => c2 h.1)]
      split
      · rw [decide_eq_false (show ¬ ((t : Int) < ((s + y : Nat) : Int)) from fun h => by have := Int.ofNat_lt.1 h; rename_i h2; have := Int.ofNat_le.1 (show (s : Int) ≤ (t : Int) from h2); omega)]
      · rfl
  · rw [if_neg (fun h : (s : Int) ≥ (t : Int) => c1 (Int.ofNat_le.1 h)), if_pos (show (t : Int) ≥ (s : Int) from Int.ofNat_le.2 (by omega))]
    congr 1
    exact decide_eq_decide.2 ⟨fun h => ⟨by omega, Int.ofNat_lt.1 h⟩, fun h => Int.ofNat_lt.2 h.2⟩
theorem wf_F15 {O : Nat} (hO : O ≤ 7) (K : Nat) (hK : 2000 ≤ K) {c d : Ce} (hc : WF O c) (hd : WF O d) : F15 K c.2.2 d.2.2 = some (mtB (st c) (od c) (st d) (od d)) := by
  have p := p128 hO
  rw [hc.2.2.2.1, hd.2.2.2.1]
  have c1 := hc.2.2.2.2.2.1
  have d1 := hd.2.2.2.2.2.1
  have c0 := Nat.le_trans (Nat.le_add_right _ _) c1
  have d0 := Nat.le_trans (Nat.le_add_right _ _) d1
  exact F15_eq K hK _ _ _ _ (Nat.le_trans hc.2.2.2.2.1 hO) (Nat.le_trans hd.2.2.2.2.1 hO) (Nat.le_trans c0 (by omega)) (Nat.le_trans d0 (by omega))
/-! ### acts -/
theorem inv_mono {O n n' : Nat} {m : Mx} (h : MInv O n m) (hn : n ≤ n') : MInv O n' m := ⟨h.o, Nat.le_trans h.len hn, h.wf, h.ids, h.srt, h.ap, h.act⟩
theorem inv0 (O : Nat) : MInv O 0 ((O : Int), [], 0) := ⟨rfl, by simp, by simp, by simp, List.Pairwise.nil, List.Pairwise.nil, by simp, .inl rfl⟩
theorem place_step {O n : Nat} (hO : O ≤ 7) (K : Nat) (hK : 2000 ≤ K) (m : Mx) (hi : MInv O n m) (hn : n ≤ 900) (id o : Int) : ∃ r m', F21 K id o m = some (r, m') ∧ MInv O (n + 1) m' := by
  rcases place_eq hO K hK m hi hn id o with ⟨_, h⟩ | ⟨hh, ⟨_, h⟩ | ⟨h1, ⟨_, h⟩ | ⟨r, s, h2, h⟩⟩⟩
  · exact ⟨_, _, h, inv_mono hi (by omega)⟩
  · exact ⟨_, _, h, inv_mono hi (by omega)⟩
  · exact ⟨_, _, h, inv_mono hi (by omega)⟩
  · exact ⟨_, _, h, place_inv hi hh.1 (by omega) h1 h2⟩
theorem remove_step {O n : Nat} (K : Nat) (hK : 2000 ≤ K) (m : Mx) (hi : MInv O n m) (hn : n ≤ 900) (id : Int) : ∃ r m', F22 K id m = some (r, m') ∧ MInv O (n + 1) m' := by
  rcases remove_eq K hK m hi hn id with ⟨_, h⟩ | ⟨_, _, _, _, _, _, h, _, _, h2⟩
  · exact ⟨_, _, h, inv_mono hi (by omega)⟩
  · exact ⟨_, _, h, inv_mono h2 (by omega)⟩
theorem turn_step {O n : Nat} (K : Nat) (m : Mx) (hi : MInv O n m) (hn : n ≤ 900) : ∃ r m', F18 K m = some (r, m') ∧ MInv O (n + 1) m' := by
  obtain ⟨a, R, h, _, _, _, _, h2⟩ := turn_eq K m hi hn
  exact ⟨_, _, h, inv_mono h2 (by omega)⟩
theorem unify_step {O n : Nat} (hO : O ≤ 7) (K : Nat) (hK : 2000 ≤ K) (m : Mx) (hi : MInv O n m) (hn : n ≤ 900) : ∃ r m', F20 K m = some (r, m') ∧ MInv O (n + 1) m' := by
  obtain ⟨c, m', h, h2, _⟩ := unify_eq hO K hK m hi hn
  exact ⟨_, _, h, inv_mono h2 (by omega)⟩
theorem L10_eq (K : Nat) (hK : 2000 ≤ K) (a : List (El T53)) : ∀ (n i : Nat) (m : Mx), i ≤ 50 → 50 - i < n → MInv 4 i m →
    ∃ m', L10_0 (F2023 K) (F21 K) (F22 K) (F18 K) (F20 K) K a n (i : Int) m.1 m.2.2 m.2.1 = some (m', ()) ∧ MInv 4 50 m'
  | 0, i, m, _, h, _ => by omega
  | n + 1, i, m, hi, h, hm => by
    by_cases c1 : i < a.length
    · have g1 : decide ((i : Int) < (a.length : Int)) = true := decide_eq_true (by omega)
      by_cases c2 : i < 50
      · have g2 : decide ((i : Int) < (50 : Int)) = true := decide_eq_true (by omega)
        have g3 : decide ((0 : Int) ≤ (i : Int) ∧ (i : Int) < (a.length : Int)) = true := decide_eq_true (by omega)
        have g4 : IntKind.i64.wrap ((i : Int) + (1 : Int)) = ((i + 1 : Nat) : Int) := by rw [i64_in] <;> omega
        obtain ⟨p1, p2, p3, p4⟩ := place_step (by omega) K hK m hm (by omega) (a.getD ((i : Int)).toNat (zEl T53)).2.1 (a.getD ((i : Int)).toNat (zEl T53)).2.2
        obtain ⟨q1, q2, q3, q4⟩ := remove_step K hK m hm (by omega) (a.getD ((i : Int)).toNat (zEl T53)).2.1
        obtain ⟨r1, r2, r3, r4⟩ := turn_step K m hm (by omega)
        obtain ⟨s1, s2, s3, s4⟩ := unify_step (by omega) K hK m hm (by omega)
        have p3' : F21 K (a.getD ((i : Int)).toNat (zEl T53)).2.1 (a.getD ((i : Int)).toNat (zEl T53)).2.2 (m.1, m.2.1, m.2.2) = some (p1, p2) := p3
        have q3' : F22 K (a.getD ((i : Int)).toNat (zEl T53)).2.1 (m.1, m.2.1, m.2.2) = some (q1, q2) := q3
        have r3' : F18 K (m.1, m.2.1, m.2.2) = some (r1, r2) := r3
        have s3' : F20 K (m.1, m.2.1, m.2.2) = some (s1, s2) := s3
        have ih := fun m' hm' => L10_eq K hK a n (i + 1) m' (by omega) (by omega) hm'
        simp only [L10_0, b10_0, g1, g2, g3, g4, if_true, p3', q3', r3', s3', Option.bind_some]
        repeat' split
        · exact ih p2 p4
        · exact ih p2 p4
        · exact ih p2 p4
        · exact ih q2 q4
        · exact ih q2 q4
        · exact ih r2 r4
        · exact ih s2 s4
      · have g2 : decide ((i : Int) < (50 : Int)) = false := decide_eq_false (by omega)
        refine ⟨m, ?_, inv_mono hm (by omega)⟩
        simp only [L10_0, b10_0, g1, g2, if_true, Bool.false_eq_true, if_false]
    · have g1 : decide ((i : Int) < (a.length : Int)) = false := decide_eq_false (by omega)
      refine ⟨m, ?_, inv_mono hm (by omega)⟩
      simp only [L10_0, b10_0, g1, Bool.false_eq_true, if_false]
theorem F10_eq (K : Nat) (hK : 2000 ≤ K) (a : List (El T53)) : ∃ m, F10 K a = some (m, ()) ∧ MInv 4 50 m := by
  obtain ⟨m, h, h2⟩ := L10_eq K hK a K 0 ((4 : Int), [], 0) (by omega) (by omega) (inv0 4)
  refine ⟨m, ?_, h2⟩
  have e : ((0 : Int) != 0) = false := rfl
  simp only [F10, G10, t10, F2023, G2023, t2023, Option.bind_some, e, Bool.false_eq_true, if_false]
  exact h
end Go.Proofs.YtlpalhgiiodjoaaE
