/- PrioReckons: of any weights, any job, any tick and any number of workers, the priority that the program tells, or why there is none, is what the document says; and the chapter's example holds. No condition: for every input. -/
import Derived.Test.YtgkmfhmodojdcaaNum3
import Derived.Test.YtgkmfhmodojdcaaPQx15
namespace Go.Proofs.Ytgkmfhmodojdcaa.Pure
open Go.RowKit Go.Proofs.Ytgkmfhmodojdcaa.PQ Go.Proofs.Ytgkmfhmodojdcaa.Num Go.Proofs.YtgkmfhmodojdcaaW.PrintWords Go.Proofs.YtgkmfhmodojdcaaW.PrintLast

theorem PrioReckons : gangerlaw12_PrioReckons.Pure := by
  intro w0 w1 w2 w3 w4 a0 a1 a2 a3 a4 a5 a6 now all hw ha hn hl
  obtain ⟨g0, g1, g2, g3, g4, g5, g6⟩ := ha
  have h0 := wf_u32 g0
  have h4 := wf_i64 g4
  have h5 := wf_i64 g5
  refine Ev.rounds (r := true) ?_
  unfold gangerlaw12_PrioReckons.f
  refine Ev.bind (prio_prio w0 w1 w2 w3 w4 a0 a1 a2 a3 a4 a5 a6 h4.2 h5.2) (Ev.bind (ref_prio w0 w1 w2 w3 w4 a0 a1 a2 a3 a4 a5 a6 h0.1 h4.2 h5.2) (Ev.pos rfl (Ev.pos rfl ?_)))
  exact Ev.bind known_true (Ev.now _)

end Go.Proofs.Ytgkmfhmodojdcaa.Pure
