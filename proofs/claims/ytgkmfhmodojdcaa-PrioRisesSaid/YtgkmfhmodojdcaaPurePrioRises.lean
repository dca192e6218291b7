/- PrioRises: a job's priority never falls as it waits, nor as its account's factor, its class's or its partition's priority rises, and it falls by just as much as it is nicer; and the chapter's example holds. No condition: for every input. -/
import Derived.Test.YtgkmfhmodojdcaaNum3
import Derived.Test.YtgkmfhmodojdcaaPQx16
namespace Go.Proofs.Ytgkmfhmodojdcaa.Pure
open Go.RowKit Go.Proofs.Ytgkmfhmodojdcaa.PQ Go.Proofs.Ytgkmfhmodojdcaa.Num Go.Proofs.YtgkmfhmodojdcaaW.PrintWords Go.Proofs.YtgkmfhmodojdcaaW.PrintLast Go.Proofs.YtgkmfhmodojdcaaW.PrintMore

theorem of_up {n n' m : Int} (h : n ≤ n') : ofS n m ≤ ofS n' m := by
  have hx := ofS_in n' m
  have hy := ofS_in n m
  by_cases c : n < 0 ∨ m < 1
  · have : ofS n m = 0 := by unfold ofS; rw [if_pos c]
    omega
  · by_cases c2 : n' > m
    · have : ofS n' m = 65536 := by unfold ofS; rw [if_neg (by omega), if_pos c2]
      omega
    · unfold ofS
      rw [if_neg c, if_neg (by omega), if_neg (show ¬ (n' < 0 ∨ m < 1) by omega), if_neg c2]
      exact Int.ediv_le_ediv (by omega) (by omega)
theorem age_up {s n n' : Int} (h : n ≤ n') : ageS s n ≤ ageS s n' := by
  have hx := ageS_in s n'
  by_cases c : s < 0 ∨ n ≤ s
  · have : ageS s n = 0 := by unfold ageS; rw [if_pos c]
    omega
  · unfold ageS
    rw [if_neg c, if_neg (show ¬ (s < 0 ∨ n' ≤ s) by omega)]
    refine of_up ?_
    by_cases c2 : n - s > 1048576
    · rw [if_pos c2, if_pos (by omega)]; omega
    · rw [if_neg c2]; split <;> omega
theorem part_up {w f f' : Int} (h0 : 0 ≤ w) (h : f ≤ f') : w * f / 65536 ≤ w * f' / 65536 := Int.ediv_le_ediv (by omega) (Int.mul_le_mul_of_nonneg_left h h0)

theorem PrioRises : gangerlaw12_PrioRises.Pure := by
  intro w0 w1 w2 w3 w4 a0 a1 a2 a3 a4 a5 a6 now all later more hw ha hn hl hla hmo
  obtain ⟨g0, g1, g2, g3, g4, g5, g6⟩ := ha
  have h4 := wf_i64 g4
  have h5 := wf_i64 g5
  have hla := wf_u16 hla
  have hmo := wf_u16 hmo
  simp only at h4 h5
  refine Ev.rounds (r := true) ?_
  unfold gangerlaw12_PrioRises.f
  refine Ev.bind (prio_prio w0 w1 w2 w3 w4 a0 a1 a2 a3 a4 a5 a6 h4.2 h5.2) ?_
  by_cases c : rightS w0 w1 w2 w3 w4 a0 a1 a3 a6 now all
  case neg =>
    have e : prioS w0 w1 w2 w3 w4 a0 a1 a2 a3 a4 a5 a6 now all = (0, 2) := by unfold prioS; rw [if_neg c]
    rw [e]
    exact Ev.neg (by decide) (Ev.bind known_true (Ev.now _))
  have hv : ∀ b1 b2 b3 b4 b5 b6 n, rightS w0 w1 w2 w3 w4 a0 b1 b3 b6 n all → prioS w0 w1 w2 w3 w4 a0 b1 b2 b3 b4 b5 b6 n all = (sumS w0 w1 w2 w3 w4 b1 b2 b4 b5 b6 n all - b3, 0) := by
    intro b1 b2 b3 b4 b5 b6 n h
    unfold prioS
    rw [if_pos h]
  rw [hv _ _ _ _ _ _ _ c]
  obtain ⟨b0, b6, b3, b1, bn, ba, c0, c1, c2, c3, c4⟩ := c
  have ela : wrap64 later = later := i64_in (by omega) (by omega)
  have emo : wrap64 more = more := i64_in (by omega) (by omega)
  rw [ela, emo, i64_in (x := now + later) (by omega) (by omega), i64_in (x := a6 + more) (by omega) (by omega), i64_in (x := a3 + more) (by omega) (by omega)]
  have hmn : ∀ x y : Int, mn x y = if y < x then y else x := fun x y => rfl
  have hmx : ∀ x y : Int, mx x y = if x < y then y else x := fun x y => rfl
  have q4 : mn a4 1099511627776 ≤ 1099511627776 ∧ mn a4 1099511627776 ≤ a4 ∧ -9223372036854775808 ≤ mn a4 1099511627776 := by rw [hmn]; split <;> omega
  have q5 : mn a5 1099511627776 ≤ 1099511627776 ∧ mn a5 1099511627776 ≤ a5 ∧ -9223372036854775808 ≤ mn a5 1099511627776 := by rw [hmn]; split <;> omega
  rw [i64_in (x := mn a4 1099511627776 + more) (by omega) (by omega), i64_in (x := mn a5 1099511627776 + later) (by omega) (by omega)]
  have qn : now ≤ mn (now + later) 1099511627776 ∧ mn (now + later) 1099511627776 ≤ 1099511627776 := by rw [hmn]; split <;> omega
  have qf : a6 ≤ mn (a6 + more) 65536 ∧ mn (a6 + more) 65536 ≤ 65536 := by rw [hmn]; split <;> omega
  have qc : a3 ≤ mn (a3 + more) 10000 ∧ mn (a3 + more) 10000 ≤ 10000 := by rw [hmn]; split <;> omega
  have r4 : a4 ≤ mx a4 (mn a4 1099511627776 + more) ∧ mx a4 (mn a4 1099511627776 + more) ≤ 9223372036854775807 := by rw [hmx]; split <;> omega
  have r5 : a5 ≤ mx a5 (mn a5 1099511627776 + later) ∧ mx a5 (mn a5 1099511627776 + later) ≤ 9223372036854775807 := by rw [hmx]; split <;> omega
  generalize mn (now + later) 1099511627776 = now' at *
  generalize mn (a6 + more) 65536 = a6' at *
  generalize mn (a3 + more) 10000 = a3' at *
  generalize mx a4 (mn a4 1099511627776 + more) = a4' at *
  generalize mx a5 (mn a5 1099511627776 + later) = a5' at *
  refine Ev.pos rfl (Ev.bind (prio_prio w0 w1 w2 w3 w4 a0 a1 a2 a3 a4 a5 a6 h4.2 h5.2) (Ev.bind (prio_prio w0 w1 w2 w3 w4 a0 a1 a2 a3 a4 a5 a6' h4.2 h5.2) (Ev.bind (prio_prio w0 w1 w2 w3 w4 a0 a1 a2 a3 a4' a5' a6 r4.2 r5.2) (Ev.bind (prio_prio w0 w1 w2 w3 w4 a0 a1 a2 a3' a4 a5 a6 h4.2 h5.2) ?_))))
  rw [hv a1 a2 a3 a4 a5 a6 now' ⟨b0, b6, b3, b1, by omega, ba, c0, c1, c2, c3, c4⟩, hv a1 a2 a3 a4 a5 a6' now ⟨b0, by omega, b3, b1, bn, ba, c0, c1, c2, c3, c4⟩, hv a1 a2 a3 a4' a5' a6 now ⟨b0, b6, b3, b1, bn, ba, c0, c1, c2, c3, c4⟩, hv a1 a2 a3' a4 a5 a6 now ⟨b0, b6, by omega, b1, bn, ba, c0, c1, c2, c3, c4⟩]
  refine Ev.pos rfl (Ev.pos rfl (Ev.pos rfl ?_))
  have u1 := part_up c1.1 (age_up (s := a1) qn.1)
  have u0 := part_up c0.1 qf.1
  have u3 := part_up c3.1 (of_up (m := 1048576) r4.1)
  have u4 := part_up c4.1 (of_up (m := 1048576) r5.1)
  have p0 := part_in c0.1 c0.2 b6.1 b6.2
  have p1 := part_in c1.1 c1.2 (ageS_in a1 now).1 (ageS_in a1 now).2
  have p2 := part_in c2.1 c2.2 (sizeS_in a2 all).1 (sizeS_in a2 all).2
  have p3 := part_in c3.1 c3.2 (ofS_in a4 1048576).1 (ofS_in a4 1048576).2
  have p4 := part_in c4.1 c4.2 (ofS_in a5 1048576).1 (ofS_in a5 1048576).2
  unfold sumS
  dsimp only
  refine Ev.step (fun k => by rw [gangerlaw12_PrioRises.j0]) (Ev.pos (by decide) (Ev.pos (by omega) (Ev.pos (by omega) (Ev.pos (by omega) (Ev.pos ?_ ?_)))))
  · rw [i64_in (x := a3' - a3) (by omega) (by omega), i64_in (by omega) (by omega)]
    omega
  · exact Ev.bind known_true (Ev.now _)

end Go.Proofs.Ytgkmfhmodojdcaa.Pure
