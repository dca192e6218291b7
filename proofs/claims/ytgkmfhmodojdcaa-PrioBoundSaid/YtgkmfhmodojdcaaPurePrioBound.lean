/- PrioBound: a priority that there is, with the nice added, lies between 0 and all weights together, and is all of them where every factor is a whole; where there is none it is 0; and the chapter's example holds. No condition: for every input. -/
import Derived.Test.YtgkmfhmodojdcaaNum3
import Derived.Test.YtgkmfhmodojdcaaPQx16
namespace Go.Proofs.Ytgkmfhmodojdcaa.Pure
open Go.RowKit Go.Proofs.Ytgkmfhmodojdcaa.PQ Go.Proofs.Ytgkmfhmodojdcaa.Num Go.Proofs.YtgkmfhmodojdcaaW.PrintWords Go.Proofs.YtgkmfhmodojdcaaW.PrintLast

theorem whole (w : Int) : w * 65536 / 65536 = w := by omega

theorem PrioBound : gangerlaw12_PrioBound.Pure := by
  intro w0 w1 w2 w3 w4 a0 a1 a2 a3 a4 a5 a6 now all hw ha hn hl
  obtain ⟨g0, g1, g2, g3, g4, g5, g6⟩ := ha
  have h3 := wf_i64 g3
  have h4 := wf_i64 g4
  have h5 := wf_i64 g5
  refine Ev.rounds (r := true) ?_
  unfold gangerlaw12_PrioBound.f
  refine Ev.bind (prio_prio w0 w1 w2 w3 w4 a0 a1 a2 a3 a4 a5 a6 h4.2 h5.2) ?_
  unfold prioS
  by_cases c : rightS w0 w1 w2 w3 w4 a0 a1 a3 a6 now all
  case neg =>
    rw [if_neg c]
    exact Ev.neg (by decide) (Ev.pos rfl (Ev.bind known_true (Ev.now _)))
  rw [if_pos c]
  have c' := c
  obtain ⟨b0, b6, b3, b1, bn, ba, c0, c1, c2, c3, c4⟩ := c
  have p0 := part_in c0.1 c0.2 b6.1 b6.2
  have p1 := part_in c1.1 c1.2 (ageS_in a1 now).1 (ageS_in a1 now).2
  have p2 := part_in c2.1 c2.2 (sizeS_in a2 all).1 (sizeS_in a2 all).2
  have p3 := part_in c3.1 c3.2 (ofS_in a4 1048576).1 (ofS_in a4 1048576).2
  have p4 := part_in c4.1 c4.2 (ofS_in a5 1048576).1 (ofS_in a5 1048576).2
  have hs : 0 ≤ sumS w0 w1 w2 w3 w4 a1 a2 a4 a5 a6 now all ∧ sumS w0 w1 w2 w3 w4 a1 a2 a4 a5 a6 now all ≤ w0 + w1 + w2 + w3 + w4 := by unfold sumS; omega
  rw [i64_in (x := w0 + w1) (by omega) (by omega), i64_in (x := w0 + w1 + w2) (by omega) (by omega), i64_in (x := w0 + w1 + w2 + w3) (by omega) (by omega), i64_in (x := w0 + w1 + w2 + w3 + w4) (by omega) (by omega)]
  generalize sumS w0 w1 w2 w3 w4 a1 a2 a4 a5 a6 now all = x at *
  refine Ev.pos rfl ?_
  rw [i64_in (x := x - a3 + a3) (by omega) (by omega)]
  refine Ev.neg (by omega) ?_
  rw [decide_eq_false (by omega)]
  refine Ev.step (fun k => by rw [gangerlaw12_PrioBound.j0]) (Ev.neg (by simp) (Ev.bind (prio_prio w0 w1 w2 w3 w4 a0 0 all 0 1048576 1048576 65536 (by omega) (by omega)) ?_))
  have hr : rightS w0 w1 w2 w3 w4 a0 0 0 65536 1048576 all := ⟨b0, by omega, by omega, by omega, by omega, ba, c0, c1, c2, c3, c4⟩
  have hv : prioS w0 w1 w2 w3 w4 a0 0 all 0 1048576 1048576 65536 1048576 all = (w0 + w1 + w2 + w3 + w4, 0) := by
    unfold prioS
    rw [if_pos hr]
    have e1 : ageS 0 1048576 = 65536 := by decide
    have e2 : ofS 1048576 1048576 = 65536 := by decide
    have e3 : sizeS all all = 65536 := by
      unfold sizeS ofS
      rw [if_neg (by omega), if_neg (by omega), if_neg (by omega), Int.mul_comm, Int.mul_ediv_cancel _ (by omega)]
    unfold sumS
    rw [e1, e2, e3, whole, whole, whole, whole, whole, Int.sub_zero]
  rw [hv]
  refine Ev.pos rfl (Ev.pos rfl ?_)
  exact Ev.bind known_true (Ev.now _)

end Go.Proofs.Ytgkmfhmodojdcaa.Pure
