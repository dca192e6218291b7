/- Rank, for priorities: the document's sort is the library's. -/
import Derived.Test.YtgkmfhmodojdcaaS12F3
import Derived.Test.YtgkmfhmodojdcaaP12RB
set_option linter.all false
namespace Go.Proofs.YtgkmfhmodojdcaaE
open Go Go.Proofs Go.Sort
set_option maxRecDepth 100000
set_option linter.unusedVariables false
theorem srt_eq (l : List Key) : srt l = isort l := by
  rw [← merge_eq]
  unfold srt
  congr 1
  funext x y
  rw [ltK, le]
theorem F39_eq (K : Nat) (l : List Key) (hl : l.length ≤ 100000) : F39 K () l = some (isort l) := by
  unfold F39
  rw [if_pos (by omega), srt_eq]
theorem F28_eq (K : Nat) (l : List Key) (hl : l.length ≤ 100000) (hK : l.length < K) : F28 K l = some (sorted l) := by
  show Option.bind (F37 K l) _ = _
  rw [F37_eq K l hK hl, Option.bind_some]
  unfold sorted
  cases hu : uniq l with
  | false => rfl
  | true =>
    simp only [Bool.not_true, Bool.false_eq_true, if_false, if_true]
    rw [F38_eq K l hl, Option.bind_some, F39_eq K l hl, Option.bind_some]
abbrev kn0 : List Key := [((5 : Int), (3 : Int), (1 : Int)), ((9 : Int), (8 : Int), (2 : Int)), ((5 : Int), (2 : Int), (7 : Int))]
theorem kn1 : sorted kn0 = ([((9 : Int), (8 : Int), (2 : Int)), ((5 : Int), (2 : Int), (7 : Int)), ((5 : Int), (3 : Int), (1 : Int))], 0) := by kernel_rfl
end Go.Proofs.YtgkmfhmodojdcaaE
