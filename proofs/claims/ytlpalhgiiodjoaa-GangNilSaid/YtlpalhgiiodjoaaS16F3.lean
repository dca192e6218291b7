import Derived.Test.YtlpalhgiiodjoaaS16F2
set_option linter.all false
namespace Go.Proofs.YtlpalhgiiodjoaaE
open Go Go.Proofs
set_option maxRecDepth 100000
set_option linter.unusedVariables false
variable {D : Prop}
/-! (*ganger/gang.Matrix).sort$1 -/
noncomputable def tab50 (F52 : Int → Int → Option (Int)) (F51 : (List (El (.int .i64))) → Option (Int)) : Tab := ((Tab.none.add 52 (row ad52 dq52 fun p => F52 p.1 p.2)).add 51 (row ad51 dq51 fun p => F51 p))
noncomputable def t50 (F52 : Int → Int → Option (Int)) (F51 : (List (El (.int .i64))) → Option (Int)) (K : Nat) (a0 : El T34) (a1 : El T34) : Option (Int) := 
 (Option.bind (F52 a0.2.1 a1.2.1) fun x0 => 
  (Option.bind (F52 a0.2.2.1 a1.2.2.1) fun x1 => 
   (Option.bind (F51 [x0, x1]) fun x2 => some (x2))))
noncomputable def G50 (F52 : Int → Int → Option (Int)) (F51 : (List (El (.int .i64))) → Option (Int)) (K : Nat) (a0 : El T34) (a1 : El T34) : Option (Int) := t50 F52 F51 K a0 a1
theorem ev50 (F52 : Int → Int → Option (Int)) (F51 : (List (El (.int .i64))) → Option (Int)) (K : Nat) (a0 : El T34) (a1 : El T34) : evFun Try.prog (tab50 F52 F51) 0 K Try.f50 [] [.agg (cellsOf T34 a0), .agg (cellsOf T34 a1)] [] dq50.k = G50 F52 F51 K a0 a1 := by
  kernel_rfl
noncomputable def F50 (K : Nat) (a0 : El T34) (a1 : El T34) : Option (Int) := G50 (F52 K) (F51 K) K a0 a1
theorem cok50 (K : Nat) : CallOK D Try.prog (tab50 (F52 K) (F51 K)) := (add_ok (add_ok none_ok ent52 (ok52 K)) ent51 (ok51 K))
theorem ok50 (K : Nat) : RowOK D Try.prog 50 (row ad50 dq50 fun p => F50 K p.1 p.2) := row_ok fun x r h => has_of (cok50 K) Try.func50 ((ev50 (F52 K) (F51 K) K x.1 x.2).trans h)
end Go.Proofs.YtlpalhgiiodjoaaE
