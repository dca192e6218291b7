import Derived.Test.YtlpalhgiiodjoaaS16F3
set_option linter.all false
namespace Go.Proofs.YtlpalhgiiodjoaaE
open Go Go.Proofs
set_option maxRecDepth 100000
set_option linter.unusedVariables false
variable {D : Prop}
/-! cmp.isNaN[int] -/
noncomputable def tab70 : Tab := Tab.none
noncomputable def t70 (K : Nat) (a0 : Int) : Option (Bool) := some (a0 != a0)
noncomputable def G70 (K : Nat) (a0 : Int) : Option (Bool) := t70 K a0
theorem ev70 (K : Nat) (a0 : Int) : evFun Try.prog (tab70) 0 K Try.f70 [] [I .i64 a0] [] dq70.k = G70 K a0 := by
  kernel_rfl
noncomputable def F70 (K : Nat) (a0 : Int) : Option (Bool) := G70 K a0
theorem cok70 (K : Nat) : CallOK D Try.prog (tab70) := none_ok
theorem ok70 (K : Nat) : RowOK D Try.prog 70 (row ad70 dq70 fun p => F70 K p) := row_ok fun x r h => has_of (cok70 K) Try.func70 ((ev70 K x).trans h)
/-! cmp.Compare[int] -/
noncomputable def tab52 (F70 : Int → Option (Bool)) : Tab := (Tab.none.add 70 (row ad70 dq70 fun p => F70 p))
noncomputable def t52 (F70 : Int → Option (Bool)) (K : Nat) (a0 : Int) (a1 : Int) : Option (Int) := 
 (Option.bind (F70 a0) fun x0 => 
  (Option.bind (F70 a1) fun x1 => (if x0 = true then (if x1 = true then some ((0 : Int))
    else some ((-1 : Int)))
   else (if x1 = true then some ((1 : Int))
    else (if decide (a0 < a1) = true then some ((-1 : Int))
     else (if decide (a0 > a1) = true then some ((1 : Int))
      else some ((0 : Int))))))))
noncomputable def G52 (F70 : Int → Option (Bool)) (K : Nat) (a0 : Int) (a1 : Int) : Option (Int) := t52 F70 K a0 a1
theorem ev52 (F70 : Int → Option (Bool)) (K : Nat) (a0 : Int) (a1 : Int) : evFun Try.prog (tab52 F70) 0 K Try.f52 [] [I .i64 a0, I .i64 a1] [] dq52.k = G52 F70 K a0 a1 := by
  kernel_rfl
noncomputable def F52 (K : Nat) (a0 : Int) (a1 : Int) : Option (Int) := G52 (F70 K) K a0 a1
theorem cok52 (K : Nat) : CallOK D Try.prog (tab52 (F70 K)) := (add_ok none_ok ent70 (ok70 K))
theorem ok52 (K : Nat) : RowOK D Try.prog 52 (row ad52 dq52 fun p => F52 K p.1 p.2) := row_ok fun x r h => has_of (cok52 K) Try.func52 ((ev52 (F70 K) K x.1 x.2).trans h)
/-! cmp.Or[int] -/
noncomputable def tab51 : Tab := Tab.none
noncomputable def la51 : List (List Tidy) := [[.only [3, 6, 7, 8], .ids [7], .top [1000000]]]
noncomputable def hd51_0 (a0 : List (El (.int .i64))) (ps8 : Int) : St := { tm := slots (nat_lit 18) [(nat_lit 3, AV.sc (Value.int IntKind.i64 (0 : Int))), (nat_lit 6, AV.row (Ty.int IntKind.i64) a0), (nat_lit 7, AV.sc (Value.int IntKind.i64 (↑a0.length : Int))), (nat_lit 8, AV.sc (Value.int IntKind.i64 ps8))], H := [] }
noncomputable def b51_0 (K : Nat) (a0 : List (El (.int .i64))) (r0 : Int → Option (Int)) (ps8 : Int) : Option (Int) :=(if decide (ps8 < (↑a0.length : Int)) = true then (if decide ((0 : Int) ≤ ps8 ∧ ps8 < (↑a0.length : Int)) = true then (if (a0.getD ps8.toNat (zEl (Ty.int IntKind.i64)) != (0 : Int)) = true then some (a0.getD ps8.toNat (zEl (Ty.int IntKind.i64)))
    else r0 (IntKind.i64.wrap (ps8 + (1 : Int))))
   else none)
  else some ((0 : Int)))
noncomputable def L51_0 (K : Nat) (a0 : List (El (.int .i64))) : Nat → Int → Option (Int)
  | 0, _ => none
  | n + 1, ps8 => b51_0 K a0 (L51_0 K a0 n) ps8
noncomputable def t51 (K : Nat) (a0 : List (El (.int .i64))) (l0 : Nat → Int → Option (Int)) : Option (Int) := l0 K ((0 : Int))
noncomputable def G51 (K : Nat) (a0 : List (El (.int .i64))) : Option (Int) := t51 K a0 (L51_0 K a0)
theorem lp51_0 (K : Nat) (a0 : List (El (.int .i64))) : ∀ (n : Nat) (ps8 : Int), loopN Try.prog (tab51) 0 K Try.f51 la51 dq51.k 0 [] n (hd51_0 a0 ps8) = L51_0 K a0 n ps8
  | 0, _ => by kernel_rfl
  | n + 1, ps8 => by
    have h : loopN Try.prog (tab51) 0 K Try.f51 la51 dq51.k 0 [] (n + 1) (hd51_0 a0 ps8) = b51_0 K a0 (fun q0 => loopN Try.prog (tab51) 0 K Try.f51 la51 dq51.k 0 [] n (hd51_0 a0 q0)) ps8 := by kernel_rfl
    rw [h]
    simp only [lp51_0 K a0 n]
    rfl
theorem ev51 (K : Nat) (a0 : List (El (.int .i64))) : evFun Try.prog (tab51) 0 K Try.f51 la51 [.row (.int .i64) a0] [] dq51.k = G51 K a0 := by
  have h : evFun Try.prog (tab51) 0 K Try.f51 la51 [.row (.int .i64) a0] [] dq51.k = t51 K a0 (fun k q0 => loopN Try.prog (tab51) 0 K Try.f51 la51 dq51.k 0 [] k (hd51_0 a0 q0)) := by kernel_rfl
  rw [h]
  simp only [lp51_0 K a0]
  rfl
noncomputable def F51 (K : Nat) (a0 : List (El (.int .i64))) : Option (Int) := G51 K a0
theorem cok51 (K : Nat) : CallOK D Try.prog (tab51) := none_ok
theorem ok51 (K : Nat) : RowOK D Try.prog 51 (row ad51 dq51 fun p => F51 K p) := row_ok fun x r h => has_of (cok51 K) Try.func51 ((ev51 K x).trans h)
/-! (*ganger/gang.Matrix).sort$1 -/
noncomputable def tab50 (F52 : Int → Int → Option (Int)) (F51 : (List (El (.int .i64))) → Option (Int)) : Tab := ((Tab.none.add 52 (row ad52 dq52 fun p => F52 p.1 p.2)).add 51 (row ad51 dq51 fun p => F51 p))
noncomputable def t50 (F52 : Int → Int → Option (Int)) (F51 : (List (El (.int .i64))) → Option (Int)) (K : Nat) (a0 : El T34) (a1 : El T34) : Option (Int) := 
 (Option.bind (F52 a0.2.1 a1.2.1) fun x0 => 
  (Option.bind (F52 a0.2.2.1 a1.2.2.1) fun x1 => 
   (Option.bind (F51 [x0, x1]) fun x2 => some (x2))))
noncomputable def G50 (F52 : Int → Int → Option (Int)) (F51 : (List (El (.int .i64))) → Option (Int)) (K : Nat) (a0 : El T34) (a1 : El T34) : Option (Int) := t50 F52 F51 K a0 a1
theorem ev50 (F52 : Int → Int → Option (Int)) (F51 : (List (El (.int .i64))) → Option (Int)) (K : Nat) (a0 : El T34) (a1 : El T34) : evFun Try.prog (tab50 F52 F51) 0 K Try.f50 [] [.agg (cellsOf T34 a0), .agg (cellsOf T34 a1)] [] dq50.k = G50 F52 F51 K a0 a1 := by
  kernel_rfl
noncomputable def F50 (K : Nat) (a0 : El T34) (a1 : El T34) : Option (Int) := G50 (F52 K) (F51 K) K a0 a1
theorem cok50 (K : Nat) : CallOK D Try.prog (tab50 (F52 K) (F51 K)) := (add_ok (add_ok none_ok ent52 (ok52 K)) ent51 (ok51 K))
theorem ok50 (K : Nat) : RowOK D Try.prog 50 (row ad50 dq50 fun p => F50 K p.1 p.2) := row_ok fun x r h => has_of (cok50 K) Try.func50 ((ev50 (F52 K) (F51 K) K x.1 x.2).trans h)
end Go.Proofs.YtlpalhgiiodjoaaE
