/- A product divided: the program's and the document's come to one and the same. -/
import Derived.Test.YtgkmfhmodojdcaaNum1
import Derived.Test.YtgkmfhmodojdcaaPQx4
namespace Go.Proofs.Ytgkmfhmodojdcaa.Num
open Go.RowKit Go.Proofs.Ytgkmfhmodojdcaa.PQ Go.Proofs.YtgkmfhmodojdcaaW.PrintWords Go.Proofs.YtgkmfhmodojdcaaW.PrintLast Go.Proofs.YtgkmfhmodojdcaaW.PrintMore

/-- What a product divided is. -/
def mulDiv (a b c : Int) : Int × Int := if a < 0 ∨ b < 0 ∨ c < 1 then (0, 2) else if a * b / c ≤ 9223372036854775807 then (a * b / c, 0) else (0, 10)

theorem num_muldiv {a b c : Int} (ha : a ≤ 9223372036854775807) (hb : b ≤ 9223372036854775807) (hc : c ≤ 9223372036854775807) : Ev (fun k => num_MulDiv.f k a b c) (mulDiv a b c) := by
  have key : ∀ f : Bool, (f = true ↔ (a < 0 ∨ b < 0 ∨ c < 1)) → Ev (fun k => num_MulDiv.j0 k a b c f) (mulDiv a b c) := by
    intro f hf
    refine Ev.step (fun k => by rw [num_MulDiv.j0]) ?_
    unfold mulDiv
    cases f with
    | true =>
      rw [if_pos (hf.1 rfl)]
      exact Ev.pos rfl (Ev.now _)
    | false =>
      have hn : ¬ (a < 0 ∨ b < 0 ∨ c < 1) := fun h => by simpa using hf.2 h
      rw [if_neg hn]
      refine Ev.neg (by simp) ?_
      rw [w64_in (x := a) (by omega) (by omega), w64_in (x := b) (by omega) (by omega), w64_in (x := c) (by omega) (by omega), mul64 (by omega) (by omega) (by omega) (by omega)]
      simp only [Option.bind_some]
      have hp0 : 0 ≤ a * b := Int.mul_nonneg (by omega) (by omega)
      obtain ⟨p, hp⟩ : ∃ p, p = a * b := ⟨_, rfl⟩
      rw [← hp] at hp0 ⊢
      by_cases hbig : p / 18446744073709551616 ≥ c
      · refine Ev.pos hbig ?_
        have : ¬ p / c ≤ 9223372036854775807 := by
          have h1 : c * 18446744073709551616 ≤ p := by
            have := (Int.le_ediv_iff_mul_le (show (0 : Int) < 18446744073709551616 by omega)).1 hbig
            omega
          have h2 : 18446744073709551616 ≤ p / c := (Int.le_ediv_iff_mul_le (by omega)).2 (by rw [Int.mul_comm]; exact h1)
          omega
        rw [if_neg this]
        exact Ev.now _
      · refine Ev.neg hbig (Ev.bind (div64 (by omega) (by omega) (by omega) (by omega) (by omega)) ?_)
        rw [show p / 18446744073709551616 * 18446744073709551616 + p % 18446744073709551616 = p by omega]
        by_cases h : p / c ≤ 9223372036854775807
        · rw [if_pos h]
          refine Ev.neg (by omega) ?_
          rw [i64_in (by have := Int.ediv_nonneg hp0 (show 0 ≤ c by omega); omega) h]
          exact Ev.now _
        · rw [if_neg h]
          exact Ev.pos (by omega) (Ev.now _)
  unfold num_MulDiv.f
  by_cases h1 : a < 0
  · exact Ev.pos h1 (key true (by simp [h1]))
  · refine Ev.neg h1 ?_
    by_cases h2 : b < 0
    · exact Ev.pos h2 (key true (by simp [h2]))
    · exact Ev.neg h2 (key _ (by rw [decide_eq_true_iff]; omega))

end Go.Proofs.Ytgkmfhmodojdcaa.Num
