import Derived.Test.YtiicginipjbloaaS04F5
set_option linter.all false
namespace Go.Proofs.YtiicginipjbloaaE
open Go Go.Proofs
set_option maxRecDepth 100000
set_option linter.unusedVariables false
variable {D : Prop}
/-! (*ganger/buddy.Yard).Free$1 -/
noncomputable def tab38 (F39 : Int → Int → Option (Int)) : Tab := (Tab.none.add 39 (row ad39 dq39 fun p => F39 p.1 p.2))
noncomputable def t38 (F39 : Int → Int → Option (Int)) (K : Nat) (a0 : El T29) (a1 : El T29) : Option (Int) := 
 (Option.bind (F39 a0.1 a1.1) fun x0 => some (x0))
noncomputable def G38 (F39 : Int → Int → Option (Int)) (K : Nat) (a0 : El T29) (a1 : El T29) : Option (Int) := t38 F39 K a0 a1
theorem ev38 (F39 : Int → Int → Option (Int)) (K : Nat) (a0 : El T29) (a1 : El T29) : evFun Try.prog (tab38 F39) 0 K Try.f38 [] [.agg (cellsOf T29 a0), .agg (cellsOf T29 a1)] [] dq38.k = G38 F39 K a0 a1 := by
  kernel_rfl
noncomputable def F38 (K : Nat) (a0 : El T29) (a1 : El T29) : Option (Int) := G38 (F39 K) K a0 a1
theorem cok38 (K : Nat) : CallOK D Try.prog (tab38 (F39 K)) := (add_ok none_ok ent39 (ok39 K))
theorem ok38 (K : Nat) : RowOK D Try.prog 38 (row ad38 dq38 fun p => F38 K p.1 p.2) := row_ok fun x r h => has_of (cok38 K) Try.func38 ((ev38 (F39 K) K x.1 x.2).trans h)
end Go.Proofs.YtiicginipjbloaaE
