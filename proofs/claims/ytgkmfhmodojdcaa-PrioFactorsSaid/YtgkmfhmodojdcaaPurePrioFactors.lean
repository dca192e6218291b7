/- PrioFactors: of any two whole numbers, how old, how great, and what part of most, as the program tells them, lie between 0 and a whole and are what the document says; and the chapter's example holds. No condition: for every input. -/
import Derived.Test.YtgkmfhmodojdcaaNum3
import Derived.Test.YtgkmfhmodojdcaaPQx12
namespace Go.Proofs.Ytgkmfhmodojdcaa.Pure
open Go.RowKit Go.Proofs.Ytgkmfhmodojdcaa.PQ Go.Proofs.Ytgkmfhmodojdcaa.Num Go.Proofs.YtgkmfhmodojdcaaW.PrintWords Go.Proofs.YtgkmfhmodojdcaaW.PrintLast

theorem PrioFactors : gangerlaw12_PrioFactors.Pure := by
  intro a b ha hb
  have ha := wf_i64 ha
  have hb := wf_i64 hb
  refine Ev.rounds (r := true) ?_
  unfold gangerlaw12_PrioFactors.f
  have hx := ageS_in a b
  have hy := sizeS_in a b
  have hz := ofS_in a b
  refine Ev.bind (prio_age hb.2) (Ev.bind (prio_size hb.2) (Ev.bind (prio_of ha.2 hb.2) (Ev.pos hx.1 (Ev.pos hx.2 (Ev.pos hy.1 (Ev.pos hy.2 (Ev.pos hz.1 ?_)))))))
  rw [decide_eq_true hz.2]
  refine Ev.step (fun k => by rw [gangerlaw12_PrioFactors.j0]) (Ev.pos rfl (Ev.bind (ref_age hb.2) (Ev.pos rfl (Ev.bind (ref_size hb.2) (Ev.pos rfl (Ev.bind (ref_of12 ha.2 hb.2) (Ev.pos rfl ?_)))))))
  exact Ev.bind known_true (Ev.now _)

end Go.Proofs.Ytgkmfhmodojdcaa.Pure
