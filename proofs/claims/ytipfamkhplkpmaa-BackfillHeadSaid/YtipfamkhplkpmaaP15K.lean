/- Backfill: a plan of two rows of jobs, one behind the other. -/
import Derived.Test.YtipfamkhplkpmaaP15J
set_option linter.all false
namespace Go.Proofs.YtipfamkhplkpmaaE
open Go Go.Proofs
set_option maxRecDepth 100000
set_option linter.unusedVariables false
abbrev yes : Int → Bool := fun _ => true
/-- how many wait, and what is held, behind jobs -/
def planE (pr : Int → Bool) (s : Sc) (now : Int) : List Wn → Int → List Hd → Int × List Hd
  | [], wait, L => (wait, L)
  | w :: l, wait, L => match skips s now w with
    | true => planE pr s now l wait L
    | false => match choice pr s now L wait w with
      | (wait', none) => planE pr s now l wait' L
      | (wait', some (st, a)) => planE pr s now l wait' (L ++ [heldOf w st a])
theorem planS_app (pr : Int → Bool) (s : Sc) (now : Int) (l2 : List Wn) : ∀ (l1 : List Wn) (wait : Int) (L : List Hd),
    planS pr yes s now (l1 ++ l2) wait L = planS pr yes s now l1 wait L ++ planS pr yes s now l2 (planE pr s now l1 wait L).1 (planE pr s now l1 wait L).2
  | [], wait, L => rfl
  | w :: l, wait, L => by
    have ih := planS_app pr s now l2 l
    have e1 : planS pr yes s now (w :: l ++ l2) wait L = match skips s now w with
      | true => planS pr yes s now (l ++ l2) wait L
      | false => match choice pr s now L wait w with
        | (wait', none) => planS pr yes s now (l ++ l2) wait' L
        | (wait', some (st, a)) => slotOf w st a :: planS pr yes s now (l ++ l2) wait' (L ++ [heldOf w st a]) := rfl
    have e2 : planS pr yes s now (w :: l) wait L = match skips s now w with
      | true => planS pr yes s now l wait L
      | false => match choice pr s now L wait w with
        | (wait', none) => planS pr yes s now l wait' L
        | (wait', some (st, a)) => slotOf w st a :: planS pr yes s now l wait' (L ++ [heldOf w st a]) := rfl
    have e3 : planE pr s now (w :: l) wait L = match skips s now w with
      | true => planE pr s now l wait L
      | false => match choice pr s now L wait w with
        | (wait', none) => planE pr s now l wait' L
        | (wait', some (st, a)) => planE pr s now l wait' (L ++ [heldOf w st a]) := rfl
    rw [e1, e2, e3]
    cases skips s now w with
    | true => exact ih wait L
    | false =>
      cases choice pr s now L wait w with
      | mk wait' r =>
        cases r with
        | none => exact ih wait' L
        | some q =>
          obtain ⟨st, a⟩ := q
          simp only [List.cons_append]
          rw [ih]
/-- Under Easy the wait only grows; whoever is promised a block makes it 1. -/
theorem choice_easy {s : Sc} {now : Int} {L : List Hd} {wait wait' : Int} {w : Wn} {r : Option (Int × Int)} (h : choice (fun x => x == 1) s now L wait w = (wait', r)) : wait ≤ wait' ∧ wait' ≤ wait + 1 := by
  unfold choice at h
  cases hc : (findS (cur s L) w.2.1 now (now + w.2.2)).2 with
  | true => rw [hc] at h; cases h; omega
  | false =>
    rw [hc] at h
    simp only at h
    cases hp : (wait + 1 == 1) with
    | true => rw [hp] at h; cases h; omega
    | false => rw [hp] at h; cases h; omega
end Go.Proofs.YtipfamkhplkpmaaE
