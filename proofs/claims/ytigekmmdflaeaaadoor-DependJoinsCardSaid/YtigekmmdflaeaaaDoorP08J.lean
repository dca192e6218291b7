/- Depend: needs together, in plain words. -/
import Derived.Test.YtigekmmdflaeaaaDoorP08E
set_option linter.all false
namespace Go.Proofs.YtigekmmdflaeaaaDoorE
open Go Go.Proofs
set_option maxRecDepth 100000
set_option linter.unusedVariables false
theorem by46 : Tryd.prog.types[(46 : Nat)].bytes ≤ 1000 := by decide +kernel
theorem fits46 {n : Nat} (h : n ≤ 1000) : decide (n * Tryd.prog.types[(46 : Nat)].bytes ≤ (140737488355328 : Nat)) = true := by
  have := Nat.mul_le_mul h by46
  exact decide_eq_true (by omega)
theorem okD_two {x y : Nd} (h1 : okD (false, [x]) = true) (h2 : okD (false, [y]) = true) (b : Bool) : okD (b, [x, y]) = true := by
  have a1 : okN x = true := by
    simp only [okD, List.all_cons, List.all_nil, Bool.and_eq_true] at h1
    exact h1.2.1
  have a2 : okN y = true := by
    simp only [okD, List.all_cons, List.all_nil, Bool.and_eq_true] at h2
    exact h2.2.1
  cases b <;> simp [okD, a1, a2]
theorem needP_r (l : List Wh) (alone : Bool) (n : Nd) : needP l alone n = 1 ∨ needP l alone n = 2 ∨ needP l alone n = 3 := all3_r _
theorem dependJoins (a b : El T24) (l : List (El T54)) (alone : Bool) (ha : Gd T24 a) (hb : Gd T24 b) (hl : Gd (.sl T54) l) (_ : Gd .bool alone) : F8 2000 a b l alone = some true := by
  obtain ⟨b1, e1, g1⟩ := F10_eq 2000 (by omega) a l (by have := ha.2.1; show List.length a.2 ≤ _; omega) (by have := hl.1; omega)
  obtain ⟨b2, e2, g2⟩ := F10_eq 2000 (by omega) b [] (by have := hb.2.1; show List.length b.2 ≤ _; omega) (by simp)
  have f11 := F11_eq 2000 (by omega)
  have known : (Option.bind (F11 2000) fun x => some x) = some true := by rw [f11]; rfl
  unfold F8 G8 t8
  rw [e1, Option.bind_some]
  cases b1 with
  | true => rw [if_pos rfl]; exact known
  | false =>
  rw [if_neg (by decide), e2, Option.bind_some]
  cases b2 with
  | true => rw [if_pos rfl]; exact known
  | false =>
  have hlen := g1 rfl
  rw [if_neg (by decide), F13_eq 2000 (by omega) (false, a.2), Option.bind_some]
  cases h1 : okD (false, a.2) with
  | false => rw [if_pos (by decide)]; exact known
  | true =>
  rw [if_neg (by decide), F13_eq 2000 (by omega) (false, b.2), Option.bind_some]
  cases h2 : okD (false, b.2) with
  | false => rw [if_pos (by decide)]; exact known
  | true =>
  rw [if_neg (by decide)]
  by_cases c0 : decide (IntKind.i64.wrap (((List.length a.2 : Nat) : Int) + ((List.length b.2 : Nat) : Int)) > (20 : Int)) = true
  · rw [if_pos c0]; exact known
  rw [if_neg c0]
  by_cases c1 : (((List.length a.2 : Nat) : Int) != (1 : Int)) = true
  · rw [if_pos c1]; exact known
  rw [if_neg c1]
  by_cases c2 : (((List.length b.2 : Nat) : Int) != (1 : Int)) = true
  · rw [if_pos c2]; exact known
  rw [if_neg c2]
  have l1 : (nds a).length = 1 := by
    have : ¬ (((List.length a.2 : Nat) : Int) ≠ 1) := fun h => c1 (bne_iff_ne.2 h)
    show List.length a.2 = 1
    omega
  have l2 : (nds b).length = 1 := by
    have : ¬ (((List.length b.2 : Nat) : Int) ≠ 1) := fun h => c2 (bne_iff_ne.2 h)
    show List.length b.2 = 1
    omega
  obtain ⟨aa, al⟩ := a
  obtain ⟨ba, bl⟩ := b
  obtain ⟨x, rfl⟩ := List.length_eq_one_iff.1 l1
  obtain ⟨y, rfl⟩ := List.length_eq_one_iff.1 l2
  have f1 : decide (List.length ((aa, [x]) : El T24).2 * Tryd.prog.types[(46 : Nat)].bytes ≤ (140737488355328 : Nat)) = true := fits46 (n := 1) (by decide)
  have f2 : decide ((List.length ((aa, [x]) : El T24).2 + List.length ((ba, [y]) : El T24).2) * Tryd.prog.types[(46 : Nat)].bytes ≤ (140737488355328 : Nat)) = true := fits46 (n := 2) (by decide)
  rw [if_pos f1, if_pos f2]
  have f23 := fun d => F23_eq 2000 (by omega) d l (by omega) alone
  have v1 : sayP (false, [x]) l alone = needP l alone x := by
    have h1' : okD (false, [x]) = true := h1
    unfold sayP
    rw [h1']
    show all3 [needP l alone x] = _
    rcases needP_r l alone x with e | e | e <;> rw [e] <;> rfl
  have v2 : sayP (false, [y]) l alone = needP l alone y := by
    have h2' : okD (false, [y]) = true := h2
    unfold sayP
    rw [h2']
    show all3 [needP l alone y] = _
    rcases needP_r l alone y with e | e | e <;> rw [e] <;> rfl
  have v3 : sayP (false, [x, y]) l alone = all3 [needP l alone x, needP l alone y] := by
    unfold sayP
    rw [okD_two h1 h2 false]
    rfl
  have v4 : sayP (true, [x, y]) l alone = any3 [needP l alone x, needP l alone y] := by
    unfold sayP
    rw [okD_two h1 h2 true]
    rfl
  have w1 : F23 2000 (false, ((aa, [x]) : El T24).2) l alone = some (needP l alone x) := by rw [f23]; exact congrArg some v1
  have w2 : F23 2000 (false, ((ba, [y]) : El T24).2) l alone = some (needP l alone y) := by rw [f23]; exact congrArg some v2
  have w3 : F23 2000 (false, ((aa, [x]) : El T24).2 ++ ((ba, [y]) : El T24).2) l alone = some (all3 [needP l alone x, needP l alone y]) := by rw [f23]; exact congrArg some v3
  have w4 : F23 2000 (true, ((aa, [x]) : El T24).2 ++ ((ba, [y]) : El T24).2) l alone = some (any3 [needP l alone x, needP l alone y]) := by rw [f23]; exact congrArg some v4
  rw [w1, Option.bind_some, w2, Option.bind_some, w3, Option.bind_some, w4, Option.bind_some, known]
  rcases needP_r l alone x with e | e | e <;> rcases needP_r l alone y with e' | e' | e' <;> rw [e, e'] <;> rfl
end Go.Proofs.YtigekmmdflaeaaaDoorE
