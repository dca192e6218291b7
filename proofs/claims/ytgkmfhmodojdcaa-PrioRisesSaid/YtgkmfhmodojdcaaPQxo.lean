-- Laid by a program of this session, over the kit's print; Lean checks it.
import Derived.Test.YtgkmfhmodojdcaaXOpens
import Derived.Test.YtgkmfhmodojdcaaPQx0
namespace Go.Proofs.Ytgkmfhmodojdcaa.PQ
open Go.RowKit Go.Proofs.YtgkmfhmodojdcaaX Go.Proofs.YtgkmfhmodojdcaaW.PrintWords Go.Proofs.YtgkmfhmodojdcaaW.PrintLast
set_option maxRecDepth 100000
theorem opens26 : Opens Try.prog 26 k26 Good26 := by
  have h0 := (Opens.iso (fun x : S26 => (x.f0, x.f1, x.f2, x.f3, x.f4)) (fun a => (⟨a.1, a.2.1, a.2.2.1, a.2.2.2.1, a.2.2.2.2⟩ : S26)) (fun _ => rfl) (Opens.struct Try.underlying26 (by kernel_rfl) (OpensFs.cons rfl (Opens.int Try.underlying3 (by kernel_rfl)) (OpensFs.cons rfl (Opens.int Try.underlying3 (by kernel_rfl)) (OpensFs.cons rfl (Opens.int Try.underlying3 (by kernel_rfl)) (OpensFs.cons rfl (Opens.int Try.underlying3 (by kernel_rfl)) (OpensFs.one rfl (Opens.int Try.underlying3 (by kernel_rfl)))))))))
  exact Opens.good (d := k26) h0 (fun _ h => h)
theorem opens29 : Opens Try.prog 29 k29 Good29 := by
  have h0 := (Opens.iso (fun x : S29 => (x.f0, x.f1, x.f2, x.f3, x.f4, x.f5, x.f6)) (fun a => (⟨a.1, a.2.1, a.2.2.1, a.2.2.2.1, a.2.2.2.2.1, a.2.2.2.2.2.1, a.2.2.2.2.2.2⟩ : S29)) (fun _ => rfl) (Opens.struct Try.underlying29 (by kernel_rfl) (OpensFs.cons rfl (Opens.int Try.underlying27 (by kernel_rfl)) (OpensFs.cons rfl (Opens.int Try.underlying3 (by kernel_rfl)) (OpensFs.cons rfl (Opens.int Try.underlying3 (by kernel_rfl)) (OpensFs.cons rfl (Opens.int Try.underlying3 (by kernel_rfl)) (OpensFs.cons rfl (Opens.int Try.underlying3 (by kernel_rfl)) (OpensFs.cons rfl (Opens.int Try.underlying3 (by kernel_rfl)) (OpensFs.one rfl (Opens.int Try.underlying3 (by kernel_rfl)))))))))))
  exact Opens.good (d := k29) h0 (fun _ h => h)
end Go.Proofs.Ytgkmfhmodojdcaa.PQ
