/- Backfill: Easy promises one at most. -/
import Derived.Test.YtipfamkhplkpmaaP15K
set_option linter.all false
namespace Go.Proofs.YtipfamkhplkpmaaE
open Go Go.Proofs
set_option maxRecDepth 100000
set_option linter.unusedVariables false
abbrev one : Int → Bool := fun x => x == 1
theorem choice_now {s : Sc} {now : Int} {L : List Hd} {wait wait' st a : Int} {w : Wn} (hw : 1 ≤ wait) (h : choice one s now L wait w = (wait', some (st, a))) : a = now := by
  unfold choice at h
  cases hc : (findS (cur s L) w.2.1 now (now + w.2.2)).2 with
  | true => rw [hc] at h; cases h; rfl
  | false =>
    rw [hc] at h
    have hp : one (wait + 1) = false := by
      show (wait + 1 == 1) = false
      simp; omega
    simp only [hp] at h
    cases h
theorem choice_up {s : Sc} {now : Int} {L : List Hd} {wait wait' : Int} {w : Wn} {r : Option (Int × Int)} (hw : 1 ≤ wait) (h : choice one s now L wait w = (wait', r)) : 1 ≤ wait' := by
  have := choice_easy h
  omega
def allNow (now : Int) (l : List Sl) : Prop := ∀ x ∈ l, x.2.2 = now
/-- Behind one that waits all start now. -/
theorem easy_tail (s : Sc) (now : Int) : ∀ (l : List Wn) (wait : Int) (L : List Hd), 1 ≤ wait → allNow now (planS one yes s now l wait L)
  | [], wait, L, hw => fun x hx => by simp [planS] at hx
  | w :: l, wait, L, hw => by
    have e1 : planS one yes s now (w :: l) wait L = match skips s now w with
      | true => planS one yes s now l wait L
      | false => match choice one s now L wait w with
        | (wait', none) => planS one yes s now l wait' L
        | (wait', some (st, a)) => slotOf w st a :: planS one yes s now l wait' (L ++ [heldOf w st a]) := rfl
    rw [e1]
    cases skips s now w with
    | true => exact easy_tail s now l wait L hw
    | false =>
      cases hc : choice one s now L wait w with
      | mk wait' r =>
        have hu := choice_up hw hc
        cases r with
        | none => exact easy_tail s now l wait' L hu
        | some q =>
          obtain ⟨st, a⟩ := q
          intro x hx
          rcases List.mem_cons.1 hx with rfl | hx
          · exact choice_now hw hc
          · exact easy_tail s now l wait' _ hu x hx
/-- All start now, or one is promised a later tick, and all others start now. -/
theorem easy_shape (s : Sc) (now : Int) : ∀ (l : List Wn) (L : List Hd), allNow now (planS one yes s now l 0 L) ∨
    ∃ l1 w l2 A B st a, l = l1 ++ w :: l2 ∧ planS one yes s now l 0 L = A ++ slotOf w st a :: B ∧ planS one yes s now (l1 ++ [w]) 0 L = A ++ [slotOf w st a] ∧ allNow now A ∧ allNow now B
  | [], L => .inl fun x hx => by simp [planS] at hx
  | w :: l, L => by
    have e1 : ∀ (m : List Wn), planS one yes s now (w :: m) 0 L = match skips s now w with
      | true => planS one yes s now m 0 L
      | false => match choice one s now L 0 w with
        | (wait', none) => planS one yes s now m wait' L
        | (wait', some (st, a)) => slotOf w st a :: planS one yes s now m wait' (L ++ [heldOf w st a]) := fun m => rfl
    cases hs : skips s now w with
    | true =>
      rcases easy_shape s now l L with h | ⟨l1, v, l2, A, B, st, a, h1, h2, h3, h4, h5⟩
      · exact .inl (by rw [e1, hs]; exact h)
      · exact .inr ⟨w :: l1, v, l2, A, B, st, a, by rw [h1]; rfl, by rw [e1, hs]; exact h2, by rw [List.cons_append, e1, hs]; exact h3, h4, h5⟩
    | false =>
      cases hc : choice one s now L 0 w with
      | mk wait' r =>
        cases r with
        | none =>
          exfalso
          unfold choice at hc
          cases hf : (findS (cur s L) w.2.1 now (now + w.2.2)).2 with
          | true => rw [hf] at hc; cases hc
          | false =>
            rw [hf] at hc
            have hp : one (0 + 1) = true := rfl
            simp only [hp] at hc
            cases hc
        | some q =>
          obtain ⟨st, a⟩ := q
          by_cases h1 : 1 ≤ wait'
          · refine .inr ⟨[], w, l, [], planS one yes s now l wait' (L ++ [heldOf w st a]), st, a, rfl, by rw [e1, hs, hc]; rfl, ?_, fun x hx => by simp at hx, easy_tail s now l wait' _ h1⟩
            show planS one yes s now (w :: []) 0 L = _
            rw [e1, hs, hc]
            rfl
          · have hw0 : wait' = 0 := by have := choice_easy hc; omega
            have ha : a = now := by
              unfold choice at hc
              cases hf : (findS (cur s L) w.2.1 now (now + w.2.2)).2 with
              | true => rw [hf] at hc; cases hc; rfl
              | false =>
                rw [hf] at hc
                have hp : one (0 + 1) = true := rfl
                simp only [hp] at hc
                cases hc
                omega
            subst hw0
            subst ha
            rcases easy_shape s a l (L ++ [heldOf w st a]) with h | ⟨l1, v, l2, A, B, st', a', h1, h2, h3, h4, h5⟩
            · refine .inl ?_
              rw [e1, hs, hc]
              intro x hx
              rcases List.mem_cons.1 hx with rfl | hx
              · rfl
              · exact h x hx
            · refine .inr ⟨w :: l1, v, l2, slotOf w st a :: A, B, st', a', by rw [h1]; rfl, ?_, ?_, ?_, h5⟩
              · rw [e1, hs, hc]
                show slotOf w st a :: planS one yes s a l 0 (L ++ [heldOf w st a]) = _
                rw [h2]; rfl
              · rw [List.cons_append, e1, hs, hc]
                show slotOf w st a :: planS one yes s a (l1 ++ [v]) 0 (L ++ [heldOf w st a]) = _
                rw [h3]; rfl
              · intro x hx
                rcases List.mem_cons.1 hx with rfl | hx
                · rfl
                · exact h4 x hx
end Go.Proofs.YtipfamkhplkpmaaE
