import Derived.Test.YthebmlpohkfhbaaS14F7
set_option linter.all false
namespace Go.Proofs.YthebmlpohkfhbaaE
open Go Go.Proofs
set_option maxRecDepth 100000
theorem known_eq : F11 2000 = some true := by kernel_rfl
end Go.Proofs.YthebmlpohkfhbaaE
