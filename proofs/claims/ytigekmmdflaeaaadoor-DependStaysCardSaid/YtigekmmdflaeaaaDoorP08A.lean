/- Depend: what the chapter's examples fix. -/
import Derived.Test.YtigekmmdflaeaaaDoorS08F8
import Derived.Test.YtigekmmdflaeaaaDoorPu0
set_option linter.all false
namespace Go.Proofs.YtigekmmdflaeaaaDoorE
open Go Go.Proofs
set_option maxRecDepth 100000
set_option linter.unusedVariables false
theorem F11_eq (K : Nat) (hK : 200 ≤ K) : F11 K = some true := by
  obtain ⟨k, rfl⟩ : ∃ k, K = k + 60 := ⟨K - 60, by omega⟩
  kernel_rfl
end Go.Proofs.YtigekmmdflaeaaaDoorE
