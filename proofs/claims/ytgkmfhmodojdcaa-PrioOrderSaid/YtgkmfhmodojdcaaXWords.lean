/- Small lemmas of this session's own, which the laid function texts use: a store's cell is there as before; a made row's small parts. -/
import Derived.Test.YtgkmfhmodojdcaaOldW
namespace Go.Proofs.YtgkmfhmodojdcaaX

/-- A store turns no cell's being there. -/
theorem isSome_cell_set (w : World) (a b : Addr) (v : Value) : ((w.setCell a v).cell? b).isSome = (w.cell? b).isSome := by
  by_cases h : a = b
  · subst h
    cases e : w.cell? a with
    | some u => rw [World.cell?_setCell_same _ _ _ e]; rfl
    | none =>
      have e2 : (w.setCell a v).cell? a = none := by
        simp only [World.setCell, World.cell?, Array.getElem?_modify, ↓reduceIte] at e ⊢
        cases h1 : w.heap[a.block]? with
        | none => rfl
        | some o =>
          cases o with
          | cells c elem frozen =>
            simp only [h1, Option.map_some] at e ⊢
            by_cases hs : a.spot.isSome = true
            · simp [hs]
            · simp only [hs] at e ⊢
              simpa using e
          | _ => rfl
      rw [e2]
  · rw [World.cell?_setCell_other _ _ _ _ h]
end Go.Proofs.YtgkmfhmodojdcaaX
