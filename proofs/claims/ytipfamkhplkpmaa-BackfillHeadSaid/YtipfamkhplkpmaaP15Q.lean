/- Backfill: what is free at a tick is told no later; a prefix of jobs. -/
import Derived.Test.YtipfamkhplkpmaaP15P
set_option linter.all false
namespace Go.Proofs.YtipfamkhplkpmaaE
open Go Go.Proofs
set_option maxRecDepth 100000
set_option linter.unusedVariables false
theorem earl_before {s : Sc} {o f g u : Int} (hk : okS s = true) (A : Ask s o f g) (h1 : f ≤ u) (hc : (findS s o u (u + g)).2 = true) : (earl s o f g).2.2 = 0 ∧ (earl s o f g).1 ≤ u := by
  obtain ⟨b1, b2, b3, b4⟩ := find_sound ⟨A.o0, A.o1⟩ hc
  obtain ⟨x, x1, x2, x3⟩ := great (u := u) (l := ticks s f) ⟨f, ticks_mem.2 (.inl rfl), h1⟩
  have hxf : f ≤ x := by
    rcases ticks_mem.1 x1 with rfl | ⟨_, h⟩
    · exact Int.le_refl _
    · omega
  have hfree : freeS s ((findS s o u (u + g)).1, o) x (x + g) = true := by
    refine free_of (fun w hw => hw) (fun k hk hh => ?_) b1
    rw [clash_iff] at *
    have hlt : u < k.2.2 := by
      rcases Int.lt_or_le u k.2.2 with h | h
      · exact h
      · have := x3 k.2.2 (ticks_mem.2 (.inr ⟨⟨k, hk, rfl⟩, by simp only [El] at *; omega⟩)) h
        simp only [El] at *
        omega
    exact ⟨⟨by simp only [El] at *; omega, hlt⟩, hh.2⟩
  have hx := find_full A.ok ⟨A.o0, A.o1⟩ b3 b2 b4 hfree
  have := earl_le hk A x1 hx
  exact ⟨this.1, by omega⟩
theorem near_take {s : Sc} {now M : Int} {l1 l2 : List Wn} (N : Near s now M (l1 ++ l2)) (h : (l1 ++ l2).all okw = true) : Near s now M l1 := by
  refine ⟨N.n, N.to, fun h1 => ?_⟩
  have h2 := N.t h
  have h3 := tot_take l1 l2 (fun w hw => (okw_of (List.all_eq_true.1 h w (by simp [hw]))).l0)
  omega
theorem planR_take {pr on : Int → Bool} {s : Sc} {now : Int} {l1 l2 : List Wn} (h : okS s = true ∧ 0 ≤ now ∧ now ≤ 1099511627776 ∧ (l1 ++ l2).length ≤ 300 ∧ (l1 ++ l2).all okw = true) : planR pr on s now l1 = (planS pr on s now l1 0 s.2.2, 0) := by
  obtain ⟨a, b, c, d, e⟩ := h
  rw [List.all_append, Bool.and_eq_true] at e
  rw [List.length_append] at d
  exact if_pos ⟨a, b, c, by omega, e.1⟩
end Go.Proofs.YtipfamkhplkpmaaE
