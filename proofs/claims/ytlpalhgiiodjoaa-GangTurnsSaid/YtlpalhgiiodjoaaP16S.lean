/- Swaps in a row of numbers. -/
import Derived.Test.YtlpalhgiiodjoaaPu0
set_option linter.all false
namespace Go.Proofs.YtlpalhgiiodjoaaE
open Go Go.Proofs
set_option linter.unusedVariables false
/-- two places change what they hold -/
def swp (l : List Int) (i j : Nat) : List Int := (l.set i (l.getD j 0)).set j (l.getD i 0)
theorem swp_len (l : List Int) (i j : Nat) : (swp l i j).length = l.length := by simp [swp]
theorem swp_perm {l : List Int} {i j : Nat} (hi : i < l.length) (hj : j < l.length) : (swp l i j).Perm l := by
  rw [List.perm_iff_count]
  intro a
  unfold swp
  rw [getD_lt hj, getD_lt hi, List.count_set (by simpa using hj), List.count_set hi, List.getElem_set]
  have c1 : l[i] = a → 1 ≤ l.count a := fun h => List.count_pos_iff.2 (h ▸ List.getElem_mem hi)
  have c2 : l[j] = a → 1 ≤ l.count a := fun h => List.count_pos_iff.2 (h ▸ List.getElem_mem hj)
  by_cases e : i = j
  · subst e
    simp only [if_true]
    by_cases h1 : l[i] = a
    · have := c1 h1
      simp only [h1, beq_self_eq_true, if_true]
      omega
    · have h1' : (l[i] == a) = false := beq_eq_false_iff_ne.2 h1
      simp [h1']
  · rw [if_neg e]
    by_cases h1 : l[i] = a <;> by_cases h2 : l[j] = a
    · have := c1 h1
      simp only [h1, h2, beq_self_eq_true, if_true]
      omega
    · have h2' : (l[j] == a) = false := beq_eq_false_iff_ne.2 h2
      have := c1 h1
      simp only [h1, h2', beq_self_eq_true, if_true, Bool.false_eq_true, if_false]
      omega
    · have h1' : (l[i] == a) = false := beq_eq_false_iff_ne.2 h1
      have := c2 h2
      simp only [h1', h2, beq_self_eq_true, if_true, Bool.false_eq_true, if_false]
      omega
    · have h1' : (l[i] == a) = false := beq_eq_false_iff_ne.2 h1
      have h2' : (l[j] == a) = false := beq_eq_false_iff_ne.2 h2
      simp only [h1', h2', Bool.false_eq_true, if_false]
      omega
end Go.Proofs.YtlpalhgiiodjoaaE
