/- Backfill: the three plans, as one plain function. -/
import Derived.Test.YtipfamkhplkpmaaP15F
set_option linter.all false
namespace Go.Proofs.YtipfamkhplkpmaaE
open Go Go.Proofs
set_option maxRecDepth 100000
set_option linter.unusedVariables false
theorem L2_1 (A : Sc → Option Int) (B : List Hd → Option (List Hd)) (C : Sc → Int → Int → Int → Option (Int × Int × Int)) (E : Sc → Int → Int → Int → Option (Int × Bool)) (P Q : Int → Option Bool) (K : Nat) (s : Sc) (l : List Wn) (now : Int) (u : Unit × Unit) :
    ∀ n, L2037_1 A B C E P Q K s l now u n = L1037_1 A B C E P Q K s l now u n
  | 0 => by funext a b c d; rfl
  | n + 1 => by
    funext a b c d
    show b2037_1 A B C E P Q K s l now u (L2037_1 A B C E P Q K s l now u n) a b c d = b1037_1 A B C E P Q K s l now u (L1037_1 A B C E P Q K s l now u n) a b c d
    rw [L2_1 A B C E P Q K s l now u n]
    rfl
theorem L2_0 (A : Sc → Option Int) (B : List Hd → Option (List Hd)) (C : Sc → Int → Int → Int → Option (Int × Int × Int)) (E : Sc → Int → Int → Int → Option (Int × Bool)) (P Q : Int → Option Bool) (K : Nat) (s : Sc) (l : List Wn) (now : Int) (u : Unit × Unit) :
    ∀ n, L2037_0 A B C E P Q K s l now u n = L1037_0 A B C E P Q K s l now u n
  | 0 => by funext a; rfl
  | n + 1 => by
    funext a
    show b2037_0 A B C E P Q K s l now u (L2037_0 A B C E P Q K s l now u n) (L2037_1 A B C E P Q K s l now u) a = b1037_0 A B C E P Q K s l now u (L1037_0 A B C E P Q K s l now u n) (L1037_1 A B C E P Q K s l now u) a
    rw [L2_0 A B C E P Q K s l now u n, show L2037_1 A B C E P Q K s l now u = L1037_1 A B C E P Q K s l now u from funext (L2_1 A B C E P Q K s l now u)]
    rfl
theorem G2_eq (A : Sc → Option Int) (B : List Hd → Option (List Hd)) (C : Sc → Int → Int → Int → Option (Int × Int × Int)) (E : Sc → Int → Int → Int → Option (Int × Bool)) (P Q : Int → Option Bool) (K : Nat) (s : Sc) (l : List Wn) (now : Int) (u : Unit × Unit) :
    G2037 A B C E P Q K s l now u = G1037 A B C E P Q K s l now u := by
  show t2037 A B C E P Q K s l now u (L2037_0 A B C E P Q K s l now u) = t1037 A B C E P Q K s l now u (L1037_0 A B C E P Q K s l now u)
  rw [show L2037_0 A B C E P Q K s l now u = L1037_0 A B C E P Q K s l now u from funext (L2_0 A B C E P Q K s l now u)]
  rfl
theorem LC_1 (A : Sc → Option Int) (B : List Hd → Option (List Hd)) (C : Sc → Int → Int → Int → Option (Int × Int × Int)) (E : Sc → Int → Int → Int → Option (Int × Bool)) (P : Int → Option Bool) (K : Nat) (s : Sc) (l : List Wn) (now : Int) (u : Unit × Unit) :
    ∀ n, L3037_1 A B C E P P K s l now u n = L1037_1 A B C E P P K s l now u n
  | 0 => by funext a b c d; rfl
  | n + 1 => by
    funext a b c d
    show b3037_1 A B C E P P K s l now u (L3037_1 A B C E P P K s l now u n) a b c d = b1037_1 A B C E P P K s l now u (L1037_1 A B C E P P K s l now u n) a b c d
    rw [LC_1 A B C E P K s l now u n]
    rfl
theorem LC_0 (A : Sc → Option Int) (B : List Hd → Option (List Hd)) (C : Sc → Int → Int → Int → Option (Int × Int × Int)) (E : Sc → Int → Int → Int → Option (Int × Bool)) (P : Int → Option Bool) (K : Nat) (s : Sc) (l : List Wn) (now : Int) (u : Unit × Unit) :
    ∀ n, L3037_0 A B C E P P K s l now u n = L1037_0 A B C E P P K s l now u n
  | 0 => by funext a; rfl
  | n + 1 => by
    funext a
    show b3037_0 A B C E P P K s l now u (L3037_0 A B C E P P K s l now u n) (L3037_1 A B C E P P K s l now u) a = b1037_0 A B C E P P K s l now u (L1037_0 A B C E P P K s l now u n) (L1037_1 A B C E P P K s l now u) a
    rw [LC_0 A B C E P K s l now u n, show L3037_1 A B C E P P K s l now u = L1037_1 A B C E P P K s l now u from funext (LC_1 A B C E P K s l now u)]
    rfl
theorem G3_eq (A : Sc → Option Int) (B : List Hd → Option (List Hd)) (C : Sc → Int → Int → Int → Option (Int × Int × Int)) (E : Sc → Int → Int → Int → Option (Int × Bool)) (P : Int → Option Bool) (K : Nat) (s : Sc) (l : List Wn) (now : Int) (u : Unit × Unit) :
    G3037 A B C E P P K s l now u = G1037 A B C E P P K s l now u := by
  show t3037 A B C E P P K s l now u (L3037_0 A B C E P P K s l now u) = t1037 A B C E P P K s l now u (L1037_0 A B C E P P K s l now u)
  rw [show L3037_0 A B C E P P K s l now u = L1037_0 A B C E P P K s l now u from funext (LC_0 A B C E P K s l now u)]
  rfl
theorem by44 : Try.prog.types[(44 : Nat)].bytes ≤ 100 := by decide +kernel
theorem fits44 {n : Nat} (h : n ≤ 100000) : decide (n * Try.prog.types[(44 : Nat)].bytes ≤ (140737488355328 : Nat)) = true := by
  have := Nat.mul_le_mul h by44
  exact decide_eq_true (by omega)
theorem fits47 {n : Nat} (h : n ≤ 100000) : decide (n * Try.prog.types[(47 : Nat)].bytes ≤ (140737488355328 : Nat)) = true := by
  have := Nat.mul_le_mul h by47
  exact decide_eq_true (by omega)
/-- a job that may be -/
structure OKw (w : Wn) : Prop where
  o0 : (0 : Int) ≤ w.2.1
  l0 : (1 : Int) ≤ w.2.2
  l1 : (w.2.2 : Int) ≤ 1099511627776
theorem planL_eq {pr on : Int → Bool} {P Q : Int → Option Bool} (hP : ∀ x, P x = some (pr x)) (hQ : ∀ x, Q x = some (on x)) {s : Sc} (hf : List.length s.2.1 ≤ 1200) (O : OKS s) (l : List Wn) (now : Int) (hn : 0 ≤ now ∧ now ≤ 1099511627776) (hw : ∀ w ∈ l, OKw w) (hl : l.length ≤ 300) (u : Unit × Unit) :
    ∀ (n : Nat) (pre suf : List Wn) (wait : Int) (L : List Hd) (out : List Sl) (M : Int), l = pre ++ suf → suf.length < n → PInv s now M L → L.length + suf.length ≤ 300 → M + tot suf ≤ 4398046511104 → 0 ≤ wait ∧ wait ≤ pre.length → out.length ≤ pre.length →
    L1037_1 (F18 2000) (F49 2000) (F30 2000) (F33 2000) P Q 2000 s l now u n wait (pre.length : Int) L out = some (out ++ planS pr on s now suf wait L, 0)
  | 0, pre, suf, wait, L, out, M, e, h, hP', hL, hM, hwt, ho => by omega
  | n + 1, pre, [], wait, L, out, M, e, h, hP', hL, hM, hwt, ho => by
    have := fin e
    simp only [L1037_1, b1037_1, this.1, Bool.false_eq_true, if_false, planS, List.append_nil]
  | n + 1, pre, w :: ws, wait, L, out, M, e, h, PI, hL, hM, hwt, ho => by
    obtain ⟨g1, g2, g3, g4, g5, g6⟩ := mid e (zEl ((Ty.int IntKind.u32).pair T42)) (by omega)
    have hlen : l.length = pre.length + (ws.length + 1) := by rw [e]; simp
    have ih := fun wait' L' out' M' => planL_eq hP hQ hf O l now hn hw hl u n (pre ++ [w]) ws wait' L' out' M' g5 (by simpa using h)
    have W := hw w (by rw [e]; simp)
    have htn : 0 ≤ tot ws := tot_nn (fun x hx => (hw x (by rw [e]; simp [hx])).l0)
    have hMw : M + (w.2.2 + tot ws) ≤ 4398046511104 := hM
    have hL' : L.length + (ws.length + 1) ≤ 300 := by simpa using hL
    have hpl : ((pre ++ [w]).length : Int) = (pre.length : Int) + 1 := by simp
    have hw0 := W.l0
    have hMM : M + tot ws ≤ 4398046511104 := by simp only [El] at *; omega
    simp only [L1037_1, b1037_1, g1, g2, g3, g4, if_true]
    have hplan : planS pr on s now (w :: ws) wait L = match skips s now w with
      | true => planS pr on s now ws wait L
      | false => match choice pr s now L wait w with
        | (wait', none) => match on wait' with
          | true => planS pr on s now ws wait' L
          | false => []
        | (wait', some (st, a)) => slotOf w st a :: (match on wait' with
          | true => planS pr on s now ws wait' (L ++ [heldOf w st a])
          | false => []) := rfl
    rw [hplan]
    have skip_ih : L1037_1 (F18 2000) (F49 2000) (F30 2000) (F33 2000) P Q 2000 s l now u n wait ((pre ++ [w]).length : Int) L out = some (out ++ planS pr on s now ws wait L, 0) :=
      ih wait L out M PI (by omega) hMM ⟨hwt.1, by omega⟩ (by simp; omega)
    by_cases c1 : w.2.1 > s.1
    · have hsk : skips s now w = true := by unfold skips; rw [decide_eq_true c1]; rfl
      rw [if_pos (decide_eq_true c1), hsk]
      exact skip_ih
    · have c1' : (w.2.1 : Int) ≤ s.1 := by simp only [El] at *; omega
      rw [if_neg (by simpa using c1), F30_eq hf ⟨O, W.o0, c1', hn.1, hn.2, W.l0, W.l1⟩, Option.bind_some]
      by_cases c2 : (firstT s w.2.1 w.2.2 (ticks s now)).2.2 = 0
      · have hsk : skips s now w = false := by unfold skips; rw [decide_eq_false c1, c2]; rfl
        have A := PI.ask W.o0 c1' W.l0 W.l1
        have hw1 := W.l1
        have ew : IntKind.i64.wrap (now + w.2.2) = now + w.2.2 := i64_in (by simp only [El] at *; omega) (by simp only [El] at *; omega)
        have ewt : IntKind.i64.wrap (wait + 1) = wait + 1 := i64_in (by omega) (by omega)
        have hfc : F33 2000 (s.1, s.2.1, L) w.2.1 now (now + w.2.2) = some (findS (cur s L) w.2.1 now (now + w.2.2)) := F33_eq (s := cur s L) hf PI.ok _ _ _
        have hec : F30 2000 (s.1, s.2.1, L) w.2.1 now w.2.2 = some (firstT (cur s L) w.2.1 w.2.2 (ticks (cur s L) now)) := F30_eq (s := cur s L) hf A
        have b44 : ∀ x : Sl, decide ((out.length + [x].length) * Try.prog.types[(44 : Nat)].bytes ≤ (140737488355328 : Nat)) = true := fun x => fits44 (by simp only [List.length_singleton]; omega)
        have b47 : ∀ x : Hd, decide ((L.length + [x].length) * Try.prog.types[(47 : Nat)].bytes ≤ (140737488355328 : Nat)) = true := fun x => fits47 (by simp only [List.length_singleton]; omega)
        rw [if_neg (by simp [c2]), hsk, ew, hfc, Option.bind_some]
        simp only
        have hch := fun wait' st a hh => choice_ok (pr := pr) PI O W.o0 c1' W.l0 W.l1 c2 (wait := wait) (wait' := wait') (st := st) (a := a) hh
        have laid : ∀ (wait' st a : Int), choice pr s now L wait w = (wait', some (st, a)) → 0 ≤ wait' ∧ wait' ≤ (pre.length : Int) + 1 →
            IntKind.i64.wrap (a + w.2.2) = a + w.2.2 ∧ L1037_1 (F18 2000) (F49 2000) (F30 2000) (F33 2000) P Q 2000 s l now u n wait' ((pre ++ [w]).length : Int) (L ++ [heldOf w st a]) (out ++ [slotOf w st a]) = some (out ++ [slotOf w st a] ++ planS pr on s now ws wait' (L ++ [heldOf w st a]), 0) := by
          intro wait' st a hh hwb
          obtain ⟨q1, q2, _⟩ := hch wait' st a hh
          have n0 := hn.1
          refine ⟨i64_in (by simp only [El] at *; omega) (by simp only [El] at *; omega), ?_⟩
          exact ih wait' (L ++ [heldOf w st a]) (out ++ [slotOf w st a]) (M + w.2.2) (PI.more (by omega) W.o0 c1' W.l0 q1 q2 (by simp only [El] at *; omega)) (by simp; omega) (by simp only [El] at *; omega) ⟨hwb.1, by omega⟩ (by simp; omega)
        cases hc : (findS (cur s L) w.2.1 now (now + w.2.2)).2 with
        | true =>
          have hcc : choice pr s now L wait w = (wait, some ((findS (cur s L) w.2.1 now (now + w.2.2)).1, now)) := by unfold choice; rw [hc]
          obtain ⟨e1, e2⟩ := laid _ _ _ hcc ⟨hwt.1, by omega⟩
          rw [hcc]
          simp only [Bool.not_true, Bool.false_eq_true, if_false, if_true, b44, b47, hQ, Option.bind_some]
          cases hon : on wait with
          | true => rw [List.append_assoc] at e2; exact e2
          | false => rfl
        | false =>
          simp only [Bool.not_false, if_true, ewt, hP, Option.bind_some]
          cases hpr : pr (wait + 1) with
          | true =>
            have hcc : choice pr s now L wait w = (wait + 1, some ((firstT (cur s L) w.2.1 w.2.2 (ticks (cur s L) now)).2.1, (firstT (cur s L) w.2.1 w.2.2 (ticks (cur s L) now)).1)) := by unfold choice; rw [hc]; simp only [hpr]
            obtain ⟨e1, e2⟩ := laid _ _ _ hcc ⟨by omega, by omega⟩
            rw [hcc, if_pos rfl, hec, Option.bind_some]
            simp only [if_true, b44, b47, hQ, Option.bind_some, e1]
            cases hon : on (wait + 1) with
            | true => rw [List.append_assoc] at e2; exact e2
            | false => rfl
          | false =>
            have hcc : choice pr s now L wait w = (wait + 1, none) := by unfold choice; rw [hc]; simp only [hpr]
            rw [hcc]
            simp only [Bool.false_eq_true, if_false, hQ, Option.bind_some]
            cases hon : on (wait + 1) with
            | true =>
              have e2 := ih (wait + 1) L out M PI (by omega) hMM ⟨by omega, by omega⟩ (by simp; omega)
              simpa using e2
            | false => simp
      · have hsk : skips s now w = true := by unfold skips; rw [decide_eq_true (p := (firstT s w.2.1 w.2.2 (ticks s now)).2.2 ≠ 0) c2]; simp
        rw [if_pos (by simpa using c2), hsk]
        exact skip_ih
end Go.Proofs.YtipfamkhplkpmaaE
