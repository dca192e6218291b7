import Derived.Test.YtgkmfhmodojdcaaS12W16
set_option linter.all false
namespace Go.Proofs.YtgkmfhmodojdcaaE
open Go Go.Proofs
set_option maxRecDepth 100000
set_option linter.unusedVariables false
variable {D : Prop}
noncomputable def tab37 : Tab := Tab.none
noncomputable def la37 : List (List Tidy) := [[.only [3, 7, 8, 9], .ids [6, 8], .top [1000000]]]
noncomputable def hd37_0 (a0 : List (El T45)) (ps9 : Int) (ph6 : List ((Int) × (Bool))) : St := { tm := slots (nat_lit 21) [(nat_lit 3, AV.mp (nat_lit 6)), (nat_lit 7, AV.row T45 a0), (nat_lit 8, AV.sc (Value.int IntKind.i64 (↑a0.length : Int))), (nat_lit 9, AV.sc (Value.int IntKind.i64 ps9))], H := [(nat_lit 6, ABlk.mp (Ty.int IntKind.u32) Ty.bool ph6)] }
noncomputable def b37_0 (K : Nat) (a0 : List (El T45)) (r0 : Int → (List ((Int) × (Bool))) → Option (Bool)) (ps9 : Int) (ph6 : List ((Int) × (Bool))) : Option (Bool) :=(if decide (ps9 < (↑a0.length : Int)) = true then (if decide ((0 : Int) ≤ ps9 ∧ ps9 < (↑a0.length : Int)) = true then (if mget (Ty.int IntKind.u32) Ty.bool (a0.getD ps9.toNat (zEl T45)).2.2 ph6 false = true then some (true)
    else r0 (IntKind.i64.wrap (ps9 + (1 : Int))) (mput (Ty.int IntKind.u32) Ty.bool (a0.getD ps9.toNat (zEl T45)).2.2 true ph6))
   else none)
  else some (false))
noncomputable def L37_0 (K : Nat) (a0 : List (El T45)) : Nat → Int → (List ((Int) × (Bool))) → Option (Bool)
  | 0, _, _ => none
  | n + 1, ps9, ph6 => b37_0 K a0 (L37_0 K a0 n) ps9 ph6
noncomputable def t37 (K : Nat) (a0 : List (El T45)) (l0 : Nat → Int → (List ((Int) × (Bool))) → Option (Bool)) : Option (Bool) := l0 K ((0 : Int)) ([])
noncomputable def G37 (K : Nat) (a0 : List (El T45)) : Option (Bool) := t37 K a0 (L37_0 K a0)
theorem lp37_0 (K : Nat) (a0 : List (El T45)) : ∀ (n : Nat) (ps9 : Int) (ph6 : List ((Int) × (Bool))), loopN Try.prog (tab37) 0 K Try.f37 la37 dq37.k 0 [] n (hd37_0 a0 ps9 ph6) = L37_0 K a0 n ps9 ph6
  | 0, _, _ => by kernel_rfl
  | n + 1, ps9, ph6 => by
    have h : loopN Try.prog (tab37) 0 K Try.f37 la37 dq37.k 0 [] (n + 1) (hd37_0 a0 ps9 ph6) = b37_0 K a0 (fun q0 q1 => loopN Try.prog (tab37) 0 K Try.f37 la37 dq37.k 0 [] n (hd37_0 a0 q0 q1)) ps9 ph6 := by kernel_rfl
    rw [h]
    simp only [lp37_0 K a0 n]
    rfl
theorem ev37 (K : Nat) (a0 : List (El T45)) : evFun Try.prog (tab37) 0 K Try.f37 la37 [.row T45 a0] [] dq37.k = G37 K a0 := by
  have h : evFun Try.prog (tab37) 0 K Try.f37 la37 [.row T45 a0] [] dq37.k = t37 K a0 (fun k q0 q1 => loopN Try.prog (tab37) 0 K Try.f37 la37 dq37.k 0 [] k (hd37_0 a0 q0 q1)) := by kernel_rfl
  rw [h]
  simp only [lp37_0 K a0]
  rfl
noncomputable def F37 (K : Nat) (a0 : List (El T45)) : Option (Bool) := G37 K a0
theorem cok37 (K : Nat) : CallOK D Try.prog (tab37) := none_ok
theorem ok37 (K : Nat) : RowOK D Try.prog 37 (row ad37 dq37 fun p => F37 K p) := row_ok fun x r h => has_of (cok37 K) Try.func37 ((ev37 K x).trans h)
noncomputable def tab38 : Tab := Tab.none
noncomputable def t38 (K : Nat) (a0 : List (El T45)) : Option (List (El T45)) := (if a0.length = (0 : Nat) then 
  (both (some ([]))
  ((if decide (((0 : Nat) + a0.length) * Try.prog.types[(45 : Nat)].bytes ≤ (140737488355328 : Nat)) = true then some (a0)
   else none)))
 else (if decide (((0 : Nat) + a0.length) * Try.prog.types[(45 : Nat)].bytes ≤ (140737488355328 : Nat)) = true then some (a0)
  else none))
noncomputable def G38 (K : Nat) (a0 : List (El T45)) : Option (List (El T45)) := t38 K a0
theorem ev38 (K : Nat) (a0 : List (El T45)) : evFun Try.prog (tab38) 0 K Try.f38 [] [.row T45 a0] [] dq38.k = G38 K a0 := by
  kernel_rfl
noncomputable def F38 (K : Nat) (a0 : List (El T45)) : Option (List (El T45)) := G38 K a0
theorem cok38 (K : Nat) : CallOK D Try.prog (tab38) := none_ok
theorem ok38 (K : Nat) : RowOK D Try.prog 38 (row ad38 dq38 fun p => F38 K p) := row_ok fun x r h => has_of (cok38 K) Try.func38 ((ev38 K x).trans h)
noncomputable def tab61 : Tab := Tab.none
noncomputable def t61 (K : Nat) (a0 : Int) : Option (Bool) := some (a0 != a0)
noncomputable def G61 (K : Nat) (a0 : Int) : Option (Bool) := t61 K a0
theorem ev61 (K : Nat) (a0 : Int) : evFun Try.prog (tab61) 0 K Try.f61 [] [I .i64 a0] [] dq61.k = G61 K a0 := by
  kernel_rfl
noncomputable def F61 (K : Nat) (a0 : Int) : Option (Bool) := G61 K a0
theorem cok61 (K : Nat) : CallOK D Try.prog (tab61) := none_ok
theorem ok61 (K : Nat) : RowOK D Try.prog 61 (row ad61 dq61 fun p => F61 K p) := row_ok fun x r h => has_of (cok61 K) Try.func61 ((ev61 K x).trans h)
noncomputable def tab49 (F61 : Int → Option (Bool)) : Tab := (Tab.none.add 61 (row ad61 dq61 fun p => F61 p))
noncomputable def t49 (F61 : Int → Option (Bool)) (K : Nat) (a0 : Int) (a1 : Int) : Option (Int) := 
 (Option.bind (F61 a0) fun x0 => 
  (Option.bind (F61 a1) fun x1 => (if x0 = true then (if x1 = true then some ((0 : Int))
    else some ((-1 : Int)))
   else (if x1 = true then some ((1 : Int))
    else (if decide (a0 < a1) = true then some ((-1 : Int))
     else (if decide (a0 > a1) = true then some ((1 : Int))
      else some ((0 : Int))))))))
noncomputable def G49 (F61 : Int → Option (Bool)) (K : Nat) (a0 : Int) (a1 : Int) : Option (Int) := t49 F61 K a0 a1
theorem ev49 (F61 : Int → Option (Bool)) (K : Nat) (a0 : Int) (a1 : Int) : evFun Try.prog (tab49 F61) 0 K Try.f49 [] [I .i64 a0, I .i64 a1] [] dq49.k = G49 F61 K a0 a1 := by
  kernel_rfl
noncomputable def F49 (K : Nat) (a0 : Int) (a1 : Int) : Option (Int) := G49 (F61 K) K a0 a1
theorem cok49 (K : Nat) : CallOK D Try.prog (tab49 (F61 K)) := (add_ok none_ok ent61 (ok61 K))
theorem ok49 (K : Nat) : RowOK D Try.prog 49 (row ad49 dq49 fun p => F49 K p.1 p.2) := row_ok fun x r h => has_of (cok49 K) Try.func49 ((ev49 (F61 K) K x.1 x.2).trans h)
noncomputable def tab62 : Tab := Tab.none
noncomputable def t62 (K : Nat) (a0 : Int) : Option (Bool) := some (a0 != a0)
noncomputable def G62 (K : Nat) (a0 : Int) : Option (Bool) := t62 K a0
theorem ev62 (K : Nat) (a0 : Int) : evFun Try.prog (tab62) 0 K Try.f62 [] [I .u32 a0] [] dq62.k = G62 K a0 := by
  kernel_rfl
noncomputable def F62 (K : Nat) (a0 : Int) : Option (Bool) := G62 K a0
theorem cok62 (K : Nat) : CallOK D Try.prog (tab62) := none_ok
theorem ok62 (K : Nat) : RowOK D Try.prog 62 (row ad62 dq62 fun p => F62 K p) := row_ok fun x r h => has_of (cok62 K) Try.func62 ((ev62 K x).trans h)
noncomputable def tab50 (F62 : Int → Option (Bool)) : Tab := (Tab.none.add 62 (row ad62 dq62 fun p => F62 p))
noncomputable def t50 (F62 : Int → Option (Bool)) (K : Nat) (a0 : Int) (a1 : Int) : Option (Int) := 
 (Option.bind (F62 a0) fun x0 => 
  (Option.bind (F62 a1) fun x1 => (if x0 = true then (if x1 = true then some ((0 : Int))
    else some ((-1 : Int)))
   else (if x1 = true then some ((1 : Int))
    else (if decide (a0 < a1) = true then some ((-1 : Int))
     else (if decide (a0 > a1) = true then some ((1 : Int))
      else some ((0 : Int))))))))
noncomputable def G50 (F62 : Int → Option (Bool)) (K : Nat) (a0 : Int) (a1 : Int) : Option (Int) := t50 F62 K a0 a1
theorem ev50 (F62 : Int → Option (Bool)) (K : Nat) (a0 : Int) (a1 : Int) : evFun Try.prog (tab50 F62) 0 K Try.f50 [] [I .u32 a0, I .u32 a1] [] dq50.k = G50 F62 K a0 a1 := by
  kernel_rfl
noncomputable def F50 (K : Nat) (a0 : Int) (a1 : Int) : Option (Int) := G50 (F62 K) K a0 a1
theorem cok50 (K : Nat) : CallOK D Try.prog (tab50 (F62 K)) := (add_ok none_ok ent62 (ok62 K))
theorem ok50 (K : Nat) : RowOK D Try.prog 50 (row ad50 dq50 fun p => F50 K p.1 p.2) := row_ok fun x r h => has_of (cok50 K) Try.func50 ((ev50 (F62 K) K x.1 x.2).trans h)
noncomputable def tab48 : Tab := Tab.none
noncomputable def la48 : List (List Tidy) := [[.only [3, 6, 7, 8], .ids [7], .top [1000000]]]
noncomputable def hd48_0 (a0 : List (El (.int .i64))) (ps8 : Int) : St := { tm := slots (nat_lit 18) [(nat_lit 3, AV.sc (Value.int IntKind.i64 (0 : Int))), (nat_lit 6, AV.row (Ty.int IntKind.i64) a0), (nat_lit 7, AV.sc (Value.int IntKind.i64 (↑a0.length : Int))), (nat_lit 8, AV.sc (Value.int IntKind.i64 ps8))], H := [] }
noncomputable def b48_0 (K : Nat) (a0 : List (El (.int .i64))) (r0 : Int → Option (Int)) (ps8 : Int) : Option (Int) :=(if decide (ps8 < (↑a0.length : Int)) = true then (if decide ((0 : Int) ≤ ps8 ∧ ps8 < (↑a0.length : Int)) = true then (if (a0.getD ps8.toNat (zEl (Ty.int IntKind.i64)) != (0 : Int)) = true then some (a0.getD ps8.toNat (zEl (Ty.int IntKind.i64)))
    else r0 (IntKind.i64.wrap (ps8 + (1 : Int))))
   else none)
  else some ((0 : Int)))
noncomputable def L48_0 (K : Nat) (a0 : List (El (.int .i64))) : Nat → Int → Option (Int)
  | 0, _ => none
  | n + 1, ps8 => b48_0 K a0 (L48_0 K a0 n) ps8
noncomputable def t48 (K : Nat) (a0 : List (El (.int .i64))) (l0 : Nat → Int → Option (Int)) : Option (Int) := l0 K ((0 : Int))
noncomputable def G48 (K : Nat) (a0 : List (El (.int .i64))) : Option (Int) := t48 K a0 (L48_0 K a0)
theorem lp48_0 (K : Nat) (a0 : List (El (.int .i64))) : ∀ (n : Nat) (ps8 : Int), loopN Try.prog (tab48) 0 K Try.f48 la48 dq48.k 0 [] n (hd48_0 a0 ps8) = L48_0 K a0 n ps8
  | 0, _ => by kernel_rfl
  | n + 1, ps8 => by
    have h : loopN Try.prog (tab48) 0 K Try.f48 la48 dq48.k 0 [] (n + 1) (hd48_0 a0 ps8) = b48_0 K a0 (fun q0 => loopN Try.prog (tab48) 0 K Try.f48 la48 dq48.k 0 [] n (hd48_0 a0 q0)) ps8 := by kernel_rfl
    rw [h]
    simp only [lp48_0 K a0 n]
    rfl
theorem ev48 (K : Nat) (a0 : List (El (.int .i64))) : evFun Try.prog (tab48) 0 K Try.f48 la48 [.row (.int .i64) a0] [] dq48.k = G48 K a0 := by
  have h : evFun Try.prog (tab48) 0 K Try.f48 la48 [.row (.int .i64) a0] [] dq48.k = t48 K a0 (fun k q0 => loopN Try.prog (tab48) 0 K Try.f48 la48 dq48.k 0 [] k (hd48_0 a0 q0)) := by kernel_rfl
  rw [h]
  simp only [lp48_0 K a0]
  rfl
noncomputable def F48 (K : Nat) (a0 : List (El (.int .i64))) : Option (Int) := G48 K a0
theorem cok48 (K : Nat) : CallOK D Try.prog (tab48) := none_ok
theorem ok48 (K : Nat) : RowOK D Try.prog 48 (row ad48 dq48 fun p => F48 K p) := row_ok fun x r h => has_of (cok48 K) Try.func48 ((ev48 K x).trans h)
noncomputable def tab40 (F49 : Int → Int → Option (Int)) (F50 : Int → Int → Option (Int)) (F48 : (List (El (.int .i64))) → Option (Int)) : Tab := (((Tab.none.add 49 (row ad49 dq49 fun p => F49 p.1 p.2)).add 50 (row ad50 dq50 fun p => F50 p.1 p.2)).add 48 (row ad48 dq48 fun p => F48 p))
noncomputable def t40 (F49 : Int → Int → Option (Int)) (F50 : Int → Int → Option (Int)) (F48 : (List (El (.int .i64))) → Option (Int)) (K : Nat) (a0 : El T45) (a1 : El T45) : Option (Int) := 
 (Option.bind (F49 a1.1 a0.1) fun x0 => 
  (Option.bind (F49 a0.2.1 a1.2.1) fun x1 => 
   (Option.bind (F50 a0.2.2 a1.2.2) fun x2 => 
    (Option.bind (F48 [x0, x1, x2]) fun x3 => some (x3)))))
noncomputable def G40 (F49 : Int → Int → Option (Int)) (F50 : Int → Int → Option (Int)) (F48 : (List (El (.int .i64))) → Option (Int)) (K : Nat) (a0 : El T45) (a1 : El T45) : Option (Int) := t40 F49 F50 F48 K a0 a1
theorem ev40 (F49 : Int → Int → Option (Int)) (F50 : Int → Int → Option (Int)) (F48 : (List (El (.int .i64))) → Option (Int)) (K : Nat) (a0 : El T45) (a1 : El T45) : evFun Try.prog (tab40 F49 F50 F48) 0 K Try.f40 [] [.agg (cellsOf T45 a0), .agg (cellsOf T45 a1)] [] dq40.k = G40 F49 F50 F48 K a0 a1 := by
  kernel_rfl
noncomputable def F40 (K : Nat) (a0 : El T45) (a1 : El T45) : Option (Int) := G40 (F49 K) (F50 K) (F48 K) K a0 a1
theorem cok40 (K : Nat) : CallOK D Try.prog (tab40 (F49 K) (F50 K) (F48 K)) := (add_ok (add_ok (add_ok none_ok ent49 (ok49 K)) ent50 (ok50 K)) ent48 (ok48 K))
theorem ok40 (K : Nat) : RowOK D Try.prog 40 (row ad40 dq40 fun p => F40 K p.1 p.2) := row_ok fun x r h => has_of (cok40 K) Try.func40 ((ev40 (F49 K) (F50 K) (F48 K) K x.1 x.2).trans h)
end Go.Proofs.YtgkmfhmodojdcaaE
