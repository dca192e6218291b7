import Derived.Test.YtgkmfhmodojdcaaS12W39
set_option linter.all false
namespace Go.Proofs.YtgkmfhmodojdcaaE
open Go Go.Proofs
set_option maxRecDepth 100000
set_option linter.unusedVariables false
variable {D : Prop}
noncomputable def tab28 (F37 : (List (El T45)) → Option (Bool)) (F38 : (List (El T45)) → Option (List (El T45))) (F39 : Unit → List (El T45) → Option (List (El T45))) (F40 : (El T45) → (El T45) → Option (Int)) : Tab := ((((Tab.none.add 37 (row ad37 dq37 fun p => F37 p)).add 38 (row ad38 dq38 fun p => F38 p)).addW 39 (rowW T45 ad39 F39 false)).add 40 (row ad40 dq40 fun p => F40 p.1 p.2))
noncomputable def t28 (F37 : (List (El T45)) → Option (Bool)) (F38 : (List (El T45)) → Option (List (El T45))) (F39 : Unit → List (El T45) → Option (List (El T45))) (F40 : (El T45) → (El T45) → Option (Int)) (K : Nat) (a0 : List (El T45)) : Option ((List (El T45)) × Int) := 
 (Option.bind (F37 a0) fun x0 => (if x0 = true then some (([], (30 : Int)))
  else 
   (Option.bind (F38 a0) fun x1 => 
    (Option.bind (F39 () x1) fun x2 => some ((x2, (0 : Int)))))))
noncomputable def G28 (F37 : (List (El T45)) → Option (Bool)) (F38 : (List (El T45)) → Option (List (El T45))) (F39 : Unit → List (El T45) → Option (List (El T45))) (F40 : (El T45) → (El T45) → Option (Int)) (K : Nat) (a0 : List (El T45)) : Option ((List (El T45)) × Int) := t28 F37 F38 F39 F40 K a0
theorem ev28 (F37 : (List (El T45)) → Option (Bool)) (F38 : (List (El T45)) → Option (List (El T45))) (F39 : Unit → List (El T45) → Option (List (El T45))) (F40 : (El T45) → (El T45) → Option (Int)) (K : Nat) (a0 : List (El T45)) : evFun Try.prog (tab28 F37 F38 F39 F40) 0 K Try.f28 [] [.row T45 a0] [] dq28.k = G28 F37 F38 F39 F40 K a0 := by
  kernel_rfl
noncomputable def F28 (K : Nat) (a0 : List (El T45)) : Option ((List (El T45)) × Int) := G28 (F37 K) (F38 K) (F39 K) (F40 K) K a0
theorem cok28 (K : Nat) : CallOK D Try.prog (tab28 (F37 K) (F38 K) (F39 K) (F40 K)) := (add_ok (addW_ok (add_ok (add_ok none_ok ent37 (ok37 K)) ent38 (ok38 K)) ent39 (ok39 K)) ent40 (ok40 K))
theorem ok28 (K : Nat) : RowOK D Try.prog 28 (row ad28 dq28 fun p => F28 K p) := row_ok fun x r h => has_of (cok28 K) Try.func28 ((ev28 (F37 K) (F38 K) (F39 K) (F40 K) K x).trans h)
noncomputable def tab19 (F17 : (El T26) → (El T29) → Int → Int → Option (Int × Int)) (F28 : (List (El T45)) → Option ((List (El T45)) × Int)) : Tab := ((Tab.none.add 17 (row ad17 dq17 fun p => F17 p.1 p.2.1 p.2.2.1 p.2.2.2)).add 28 (row ad28 dq28 fun p => F28 p))
noncomputable def la19 : List (List Tidy) := [[.only [2, 3, 4, 10, 15, 16, 17], .pro 10 40 45 (T45), .ids [4, 16, 40, 43], .top [1000000]]]
noncomputable def hd19_0 (a0 : El T26) (a1 : List (El T29)) (a2 : Int) (a3 : Int) (ps17 : Int) (ph40 : List (El T45)) : St := { tm := slots (nat_lit 46) [(nat_lit 2, AV.sc (Value.int IntKind.i64 a2)), (nat_lit 3, AV.sc (Value.int IntKind.i64 a3)), (nat_lit 4, AV.ptr (nat_lit 4) (nat_lit 0)), (nat_lit 10, AV.own (nat_lit 40)), (nat_lit 15, AV.row T29 a1), (nat_lit 16, AV.sc (Value.int IntKind.i64 (↑a1.length : Int))), (nat_lit 17, AV.sc (Value.int IntKind.i64 ps17))], H := [(nat_lit 4, ABlk.box (nat_lit 26) (cellsOf T26 a0)), (nat_lit 40, ABlk.arr (nat_lit 45) T45 ph40)] }
noncomputable def b19_0 (F17 : (El T26) → (El T29) → Int → Int → Option (Int × Int)) (F28 : (List (El T45)) → Option ((List (El T45)) × Int)) (K : Nat) (a0 : El T26) (a1 : List (El T29)) (a2 : Int) (a3 : Int) (r0 : Int → (List (El T45)) → Option ((List (El T45)) × Int)) (ps17 : Int) (ph40 : List (El T45)) : Option ((List (El T45)) × Int) :=(if decide (ps17 < (↑a1.length : Int)) = true then (if decide ((0 : Int) ≤ ps17 ∧ ps17 < (↑a1.length : Int)) = true then 
    (Option.bind (F17 a0 (a1.getD ps17.toNat (zEl T29)) a2 a3) fun x0 => (if (x0.2 != (0 : Int)) = true then some (([], x0.2))
     else (if decide ((ph40.length + [(x0.1, (a1.getD ps17.toNat (zEl T29)).2.1, (a1.getD ps17.toNat (zEl T29)).1)].length) * Try.prog.types[(45 : Nat)].bytes ≤ (140737488355328 : Nat)) = true then r0 (IntKind.i64.wrap (ps17 + (1 : Int))) (ph40 ++ [(x0.1, (a1.getD ps17.toNat (zEl T29)).2.1, (a1.getD ps17.toNat (zEl T29)).1)])
      else none)))
   else none)
  else 
   (Option.bind (F28 ph40) fun x1 => some (x1)))
noncomputable def L19_0 (F17 : (El T26) → (El T29) → Int → Int → Option (Int × Int)) (F28 : (List (El T45)) → Option ((List (El T45)) × Int)) (K : Nat) (a0 : El T26) (a1 : List (El T29)) (a2 : Int) (a3 : Int) : Nat → Int → (List (El T45)) → Option ((List (El T45)) × Int)
  | 0, _, _ => none
  | n + 1, ps17, ph40 => b19_0 F17 F28 K a0 a1 a2 a3 (L19_0 F17 F28 K a0 a1 a2 a3 n) ps17 ph40
noncomputable def t19 (F17 : (El T26) → (El T29) → Int → Int → Option (Int × Int)) (F28 : (List (El T45)) → Option ((List (El T45)) × Int)) (K : Nat) (a0 : El T26) (a1 : List (El T29)) (a2 : Int) (a3 : Int) (l0 : Nat → Int → (List (El T45)) → Option ((List (El T45)) × Int)) : Option ((List (El T45)) × Int) := l0 K ((0 : Int)) ([])
noncomputable def G19 (F17 : (El T26) → (El T29) → Int → Int → Option (Int × Int)) (F28 : (List (El T45)) → Option ((List (El T45)) × Int)) (K : Nat) (a0 : El T26) (a1 : List (El T29)) (a2 : Int) (a3 : Int) : Option ((List (El T45)) × Int) := t19 F17 F28 K a0 a1 a2 a3 (L19_0 F17 F28 K a0 a1 a2 a3)
theorem lp19_0 (F17 : (El T26) → (El T29) → Int → Int → Option (Int × Int)) (F28 : (List (El T45)) → Option ((List (El T45)) × Int)) (K : Nat) (a0 : El T26) (a1 : List (El T29)) (a2 : Int) (a3 : Int) : ∀ (n : Nat) (ps17 : Int) (ph40 : List (El T45)), loopN Try.prog (tab19 F17 F28) 0 K Try.f19 la19 dq19.k 0 [] n (hd19_0 a0 a1 a2 a3 ps17 ph40) = L19_0 F17 F28 K a0 a1 a2 a3 n ps17 ph40
  | 0, _, _ => by kernel_rfl
  | n + 1, ps17, ph40 => by
    have h : loopN Try.prog (tab19 F17 F28) 0 K Try.f19 la19 dq19.k 0 [] (n + 1) (hd19_0 a0 a1 a2 a3 ps17 ph40) = b19_0 F17 F28 K a0 a1 a2 a3 (fun q0 q1 => loopN Try.prog (tab19 F17 F28) 0 K Try.f19 la19 dq19.k 0 [] n (hd19_0 a0 a1 a2 a3 q0 q1)) ps17 ph40 := by kernel_rfl
    rw [h]
    simp only [lp19_0 F17 F28 K a0 a1 a2 a3 n]
    rfl
theorem ev19 (F17 : (El T26) → (El T29) → Int → Int → Option (Int × Int)) (F28 : (List (El T45)) → Option ((List (El T45)) × Int)) (K : Nat) (a0 : El T26) (a1 : List (El T29)) (a2 : Int) (a3 : Int) : evFun Try.prog (tab19 F17 F28) 0 K Try.f19 la19 [.agg (cellsOf T26 a0), .row T29 a1, I .i64 a2, I .i64 a3] [] dq19.k = G19 F17 F28 K a0 a1 a2 a3 := by
  have h : evFun Try.prog (tab19 F17 F28) 0 K Try.f19 la19 [.agg (cellsOf T26 a0), .row T29 a1, I .i64 a2, I .i64 a3] [] dq19.k = t19 F17 F28 K a0 a1 a2 a3 (fun k q0 q1 => loopN Try.prog (tab19 F17 F28) 0 K Try.f19 la19 dq19.k 0 [] k (hd19_0 a0 a1 a2 a3 q0 q1)) := by kernel_rfl
  rw [h]
  simp only [lp19_0 F17 F28 K a0 a1 a2 a3]
  rfl
noncomputable def F19 (K : Nat) (a0 : El T26) (a1 : List (El T29)) (a2 : Int) (a3 : Int) : Option ((List (El T45)) × Int) := G19 (F17 K) (F28 K) K a0 a1 a2 a3
theorem cok19 (K : Nat) : CallOK False Try.prog (tab19 (F17 K) (F28 K)) := (add_ok (add_ok none_ok ent17 (ok17 K)) ent28 (ok28 K))
theorem ok19 (K : Nat) : RowOK False Try.prog 19 (row ad19 dq19 fun p => F19 K p.1 p.2.1 p.2.2.1 p.2.2.2) := row_ok fun x r h => has_of (cok19 K) Try.func19 ((ev19 (F17 K) (F28 K) K x.1 x.2.1 x.2.2.1 x.2.2.2).trans h)
noncomputable def tab21 (F18 : (El T26) → (El T29) → Int → Int → Option (Int × Int)) (F29 : (List (El T45)) → Option ((List (El T45)) × Int)) : Tab := ((Tab.none.add 18 (row ad18 dq18 fun p => F18 p.1 p.2.1 p.2.2.1 p.2.2.2)).add 29 (row ad29 dq29 fun p => F29 p))
noncomputable def la21 : List (List Tidy) := [[.only [1, 2, 3, 4, 10, 11], .pro 10 48 45 (T45), .ids [4, 48, 50], .top [1000000]]]
noncomputable def hd21_0 (a0 : El T26) (a1 : List (El T29)) (a2 : Int) (a3 : Int) (ps11 : Int) (ph48 : List (El T45)) : St := { tm := slots (nat_lit 53) [(nat_lit 1, AV.row T29 a1), (nat_lit 2, AV.sc (Value.int IntKind.i64 a2)), (nat_lit 3, AV.sc (Value.int IntKind.i64 a3)), (nat_lit 4, AV.ptr (nat_lit 4) (nat_lit 0)), (nat_lit 10, AV.own (nat_lit 48)), (nat_lit 11, AV.sc (Value.int IntKind.i64 ps11))], H := [(nat_lit 4, ABlk.box (nat_lit 26) (cellsOf T26 a0)), (nat_lit 48, ABlk.arr (nat_lit 45) T45 ph48)] }
noncomputable def b21_0 (F18 : (El T26) → (El T29) → Int → Int → Option (Int × Int)) (F29 : (List (El T45)) → Option ((List (El T45)) × Int)) (K : Nat) (a0 : El T26) (a1 : List (El T29)) (a2 : Int) (a3 : Int) (r0 : Int → (List (El T45)) → Option ((List (El T45)) × Int)) (ps11 : Int) (ph48 : List (El T45)) : Option ((List (El T45)) × Int) :=(if decide (ps11 < (↑a1.length : Int)) = true then (if decide ((0 : Int) ≤ ps11 ∧ ps11 < (↑a1.length : Int)) = true then 
    (Option.bind (F18 a0 (a1.getD ps11.toNat (zEl T29)) a2 a3) fun x0 => (if (x0.2 != (0 : Int)) = true then some (([], x0.2))
     else (if decide ((0 : Int) ≤ ps11 ∧ ps11 < (↑a1.length : Int)) = true then (if decide ((0 : Int) ≤ ps11 ∧ ps11 < (↑a1.length : Int)) = true then (if decide ((ph48.length + [(x0.1, (a1.getD ps11.toNat (zEl T29)).2.1, (a1.getD ps11.toNat (zEl T29)).1)].length) * Try.prog.types[(45 : Nat)].bytes ≤ (140737488355328 : Nat)) = true then r0 (IntKind.i64.wrap (ps11 + (1 : Int))) (ph48 ++ [(x0.1, (a1.getD ps11.toNat (zEl T29)).2.1, (a1.getD ps11.toNat (zEl T29)).1)])
        else none)
       else none)
      else none)))
   else none)
  else 
   (Option.bind (F29 ph48) fun x1 => some (x1)))
noncomputable def L21_0 (F18 : (El T26) → (El T29) → Int → Int → Option (Int × Int)) (F29 : (List (El T45)) → Option ((List (El T45)) × Int)) (K : Nat) (a0 : El T26) (a1 : List (El T29)) (a2 : Int) (a3 : Int) : Nat → Int → (List (El T45)) → Option ((List (El T45)) × Int)
  | 0, _, _ => none
  | n + 1, ps11, ph48 => b21_0 F18 F29 K a0 a1 a2 a3 (L21_0 F18 F29 K a0 a1 a2 a3 n) ps11 ph48
noncomputable def t21 (F18 : (El T26) → (El T29) → Int → Int → Option (Int × Int)) (F29 : (List (El T45)) → Option ((List (El T45)) × Int)) (K : Nat) (a0 : El T26) (a1 : List (El T29)) (a2 : Int) (a3 : Int) (l0 : Nat → Int → (List (El T45)) → Option ((List (El T45)) × Int)) : Option ((List (El T45)) × Int) := l0 K ((0 : Int)) ([])
noncomputable def G21 (F18 : (El T26) → (El T29) → Int → Int → Option (Int × Int)) (F29 : (List (El T45)) → Option ((List (El T45)) × Int)) (K : Nat) (a0 : El T26) (a1 : List (El T29)) (a2 : Int) (a3 : Int) : Option ((List (El T45)) × Int) := t21 F18 F29 K a0 a1 a2 a3 (L21_0 F18 F29 K a0 a1 a2 a3)
theorem lp21_0 (F18 : (El T26) → (El T29) → Int → Int → Option (Int × Int)) (F29 : (List (El T45)) → Option ((List (El T45)) × Int)) (K : Nat) (a0 : El T26) (a1 : List (El T29)) (a2 : Int) (a3 : Int) : ∀ (n : Nat) (ps11 : Int) (ph48 : List (El T45)), loopN Try.prog (tab21 F18 F29) 0 K Try.f21 la21 dq21.k 0 [] n (hd21_0 a0 a1 a2 a3 ps11 ph48) = L21_0 F18 F29 K a0 a1 a2 a3 n ps11 ph48
  | 0, _, _ => by kernel_rfl
  | n + 1, ps11, ph48 => by
    have h : loopN Try.prog (tab21 F18 F29) 0 K Try.f21 la21 dq21.k 0 [] (n + 1) (hd21_0 a0 a1 a2 a3 ps11 ph48) = b21_0 F18 F29 K a0 a1 a2 a3 (fun q0 q1 => loopN Try.prog (tab21 F18 F29) 0 K Try.f21 la21 dq21.k 0 [] n (hd21_0 a0 a1 a2 a3 q0 q1)) ps11 ph48 := by kernel_rfl
    rw [h]
    simp only [lp21_0 F18 F29 K a0 a1 a2 a3 n]
    rfl
theorem ev21 (F18 : (El T26) → (El T29) → Int → Int → Option (Int × Int)) (F29 : (List (El T45)) → Option ((List (El T45)) × Int)) (K : Nat) (a0 : El T26) (a1 : List (El T29)) (a2 : Int) (a3 : Int) : evFun Try.prog (tab21 F18 F29) 0 K Try.f21 la21 [.agg (cellsOf T26 a0), .row T29 a1, I .i64 a2, I .i64 a3] [] dq21.k = G21 F18 F29 K a0 a1 a2 a3 := by
  have h : evFun Try.prog (tab21 F18 F29) 0 K Try.f21 la21 [.agg (cellsOf T26 a0), .row T29 a1, I .i64 a2, I .i64 a3] [] dq21.k = t21 F18 F29 K a0 a1 a2 a3 (fun k q0 q1 => loopN Try.prog (tab21 F18 F29) 0 K Try.f21 la21 dq21.k 0 [] k (hd21_0 a0 a1 a2 a3 q0 q1)) := by kernel_rfl
  rw [h]
  simp only [lp21_0 F18 F29 K a0 a1 a2 a3]
  rfl
noncomputable def F21 (K : Nat) (a0 : El T26) (a1 : List (El T29)) (a2 : Int) (a3 : Int) : Option ((List (El T45)) × Int) := G21 (F18 K) (F29 K) K a0 a1 a2 a3
theorem cok21 (K : Nat) : CallOK False Try.prog (tab21 (F18 K) (F29 K)) := (add_ok (add_ok none_ok ent18 (ok18 K)) ent29 (ok29 K))
theorem ok21 (K : Nat) : RowOK False Try.prog 21 (row ad21 dq21 fun p => F21 K p.1 p.2.1 p.2.2.1 p.2.2.2) := row_ok fun x r h => has_of (cok21 K) Try.func21 ((ev21 (F18 K) (F29 K) K x.1 x.2.1 x.2.2.1 x.2.2.2).trans h)
noncomputable def tab22 (F19 : (El T26) → (List (El T29)) → Int → Int → Option ((List (El T45)) × Int)) : Tab := (Tab.none.add 19 (row ad19 dq19 fun p => F19 p.1 p.2.1 p.2.2.1 p.2.2.2))
noncomputable def t22 (F19 : (El T26) → (List (El T29)) → Int → Int → Option ((List (El T45)) × Int)) (K : Nat) (a0 : El T26) (a1 : List (El T29)) (a2 : Int) (a3 : Int) : Option (Int × Int) := 
 (Option.bind (F19 a0 a1 a2 a3) fun x0 => (if (x0.2 != (0 : Int)) = true then some (((0 : Int), x0.2))
  else (if ((↑x0.1.length : Int) == (0 : Int)) = true then some (((0 : Int), (4 : Int)))
   else (if decide ((0 : Int) ≤ (0 : Int) ∧ (0 : Int) < (↑x0.1.length : Int)) = true then some (((x0.1.getD (Int.toNat (0 : Int)) (zEl T45)).2.2, (0 : Int)))
    else none))))
noncomputable def G22 (F19 : (El T26) → (List (El T29)) → Int → Int → Option ((List (El T45)) × Int)) (K : Nat) (a0 : El T26) (a1 : List (El T29)) (a2 : Int) (a3 : Int) : Option (Int × Int) := t22 F19 K a0 a1 a2 a3
theorem ev22 (F19 : (El T26) → (List (El T29)) → Int → Int → Option ((List (El T45)) × Int)) (K : Nat) (a0 : El T26) (a1 : List (El T29)) (a2 : Int) (a3 : Int) : evFun Try.prog (tab22 F19) 0 K Try.f22 [] [.agg (cellsOf T26 a0), .row T29 a1, I .i64 a2, I .i64 a3] [] dq22.k = G22 F19 K a0 a1 a2 a3 := by
  kernel_rfl
noncomputable def F22 (K : Nat) (a0 : El T26) (a1 : List (El T29)) (a2 : Int) (a3 : Int) : Option (Int × Int) := G22 (F19 K) K a0 a1 a2 a3
theorem cok22 (K : Nat) : CallOK False Try.prog (tab22 (F19 K)) := (add_ok none_ok ent19 (ok19 K))
theorem ok22 (K : Nat) : RowOK False Try.prog 22 (row ad22 dq22 fun p => F22 K p.1 p.2.1 p.2.2.1 p.2.2.2) := row_ok fun x r h => has_of (cok22 K) Try.func22 ((ev22 (F19 K) K x.1 x.2.1 x.2.2.1 x.2.2.2).trans h)
noncomputable def tab23 (F21 : (El T26) → (List (El T29)) → Int → Int → Option ((List (El T45)) × Int)) (F30 : (El T45) → (El T45) → Option (Bool)) : Tab := ((Tab.none.add 21 (row ad21 dq21 fun p => F21 p.1 p.2.1 p.2.2.1 p.2.2.2)).add 30 (row ad30 dq30 fun p => F30 p.1 p.2))
noncomputable def la23 : List (List Tidy) := [[.only [10, 12, 13], .ids [4, 12, 19, 26], .top [1000000]]]
noncomputable def hd23_0 (a0 : El T26) (a1 : List (El T29)) (a2 : Int) (a3 : Int) (ps13 : Int) (ph12 : El T45) (ph19 : List (El T45)) : St := { tm := slots (nat_lit 49) [(nat_lit 10, AV.own (nat_lit 19)), (nat_lit 12, AV.ptr (nat_lit 12) (nat_lit 0)), (nat_lit 13, AV.sc (Value.int IntKind.i64 ps13))], H := [(nat_lit 4, ABlk.box (nat_lit 26) (cellsOf T26 a0)), (nat_lit 12, ABlk.box (nat_lit 45) (cellsOf T45 ph12)), (nat_lit 19, ABlk.arr (nat_lit 45) T45 ph19)] }
noncomputable def b23_0 (F21 : (El T26) → (List (El T29)) → Int → Int → Option ((List (El T45)) × Int)) (F30 : (El T45) → (El T45) → Option (Bool)) (K : Nat) (a0 : El T26) (a1 : List (El T29)) (a2 : Int) (a3 : Int) (r0 : Int → (El T45) → (List (El T45)) → Option (Int × Int)) (ps13 : Int) (ph12 : El T45) (ph19 : List (El T45)) : Option (Int × Int) :=(if decide (ps13 < (↑ph19.length : Int)) = true then (if decide ((0 : Int) ≤ ps13 ∧ ps13 < (↑ph19.length : Int)) = true then 
    (Option.bind (F30 (ph19.getD ps13.toNat (zEl T45)) ph12) fun x1 => (if x1 = true then (if decide ((0 : Int) ≤ ps13 ∧ ps13 < (↑ph19.length : Int)) = true then r0 (IntKind.i64.wrap (ps13 + (1 : Int))) (ph19.getD ps13.toNat (zEl T45)) (ph19)
      else none)
     else r0 (IntKind.i64.wrap (ps13 + (1 : Int))) (ph12) (ph19)))
   else none)
  else some ((ph12.2.2, (0 : Int))))
noncomputable def L23_0 (F21 : (El T26) → (List (El T29)) → Int → Int → Option ((List (El T45)) × Int)) (F30 : (El T45) → (El T45) → Option (Bool)) (K : Nat) (a0 : El T26) (a1 : List (El T29)) (a2 : Int) (a3 : Int) : Nat → Int → (El T45) → (List (El T45)) → Option (Int × Int)
  | 0, _, _, _ => none
  | n + 1, ps13, ph12, ph19 => b23_0 F21 F30 K a0 a1 a2 a3 (L23_0 F21 F30 K a0 a1 a2 a3 n) ps13 ph12 ph19
noncomputable def t23 (F21 : (El T26) → (List (El T29)) → Int → Int → Option ((List (El T45)) × Int)) (F30 : (El T45) → (El T45) → Option (Bool)) (K : Nat) (a0 : El T26) (a1 : List (El T29)) (a2 : Int) (a3 : Int) (l0 : Nat → Int → (El T45) → (List (El T45)) → Option (Int × Int)) : Option (Int × Int) := 
 (Option.bind (F21 a0 a1 a2 a3) fun x0 => (if (x0.2 != (0 : Int)) = true then some (((0 : Int), x0.2))
  else (if ((↑x0.1.length : Int) == (0 : Int)) = true then some (((0 : Int), (4 : Int)))
   else (if decide ((0 : Int) ≤ (0 : Int) ∧ (0 : Int) < (↑x0.1.length : Int)) = true then l0 K ((0 : Int)) (x0.1.getD (Int.toNat (0 : Int)) (zEl T45)) (x0.1)
    else none))))
noncomputable def G23 (F21 : (El T26) → (List (El T29)) → Int → Int → Option ((List (El T45)) × Int)) (F30 : (El T45) → (El T45) → Option (Bool)) (K : Nat) (a0 : El T26) (a1 : List (El T29)) (a2 : Int) (a3 : Int) : Option (Int × Int) := t23 F21 F30 K a0 a1 a2 a3 (L23_0 F21 F30 K a0 a1 a2 a3)
theorem lp23_0 (F21 : (El T26) → (List (El T29)) → Int → Int → Option ((List (El T45)) × Int)) (F30 : (El T45) → (El T45) → Option (Bool)) (K : Nat) (a0 : El T26) (a1 : List (El T29)) (a2 : Int) (a3 : Int) : ∀ (n : Nat) (ps13 : Int) (ph12 : El T45) (ph19 : List (El T45)), loopN Try.prog (tab23 F21 F30) 0 K Try.f23 la23 dq23.k 0 [] n (hd23_0 a0 a1 a2 a3 ps13 ph12 ph19) = L23_0 F21 F30 K a0 a1 a2 a3 n ps13 ph12 ph19
  | 0, _, _, _ => by kernel_rfl
  | n + 1, ps13, ph12, ph19 => by
    have h : loopN Try.prog (tab23 F21 F30) 0 K Try.f23 la23 dq23.k 0 [] (n + 1) (hd23_0 a0 a1 a2 a3 ps13 ph12 ph19) = b23_0 F21 F30 K a0 a1 a2 a3 (fun q0 q1 q2 => loopN Try.prog (tab23 F21 F30) 0 K Try.f23 la23 dq23.k 0 [] n (hd23_0 a0 a1 a2 a3 q0 q1 q2)) ps13 ph12 ph19 := by kernel_rfl
    rw [h]
    simp only [lp23_0 F21 F30 K a0 a1 a2 a3 n]
    rfl
theorem ev23 (F21 : (El T26) → (List (El T29)) → Int → Int → Option ((List (El T45)) × Int)) (F30 : (El T45) → (El T45) → Option (Bool)) (K : Nat) (a0 : El T26) (a1 : List (El T29)) (a2 : Int) (a3 : Int) : evFun Try.prog (tab23 F21 F30) 0 K Try.f23 la23 [.agg (cellsOf T26 a0), .row T29 a1, I .i64 a2, I .i64 a3] [] dq23.k = G23 F21 F30 K a0 a1 a2 a3 := by
  have h : evFun Try.prog (tab23 F21 F30) 0 K Try.f23 la23 [.agg (cellsOf T26 a0), .row T29 a1, I .i64 a2, I .i64 a3] [] dq23.k = t23 F21 F30 K a0 a1 a2 a3 (fun k q0 q1 q2 => loopN Try.prog (tab23 F21 F30) 0 K Try.f23 la23 dq23.k 0 [] k (hd23_0 a0 a1 a2 a3 q0 q1 q2)) := by kernel_rfl
  rw [h]
  simp only [lp23_0 F21 F30 K a0 a1 a2 a3]
  rfl
noncomputable def F23 (K : Nat) (a0 : El T26) (a1 : List (El T29)) (a2 : Int) (a3 : Int) : Option (Int × Int) := G23 (F21 K) (F30 K) K a0 a1 a2 a3
theorem cok23 (K : Nat) : CallOK False Try.prog (tab23 (F21 K) (F30 K)) := (add_ok (add_ok none_ok ent21 (ok21 K)) ent30 (ok30 K))
theorem ok23 (K : Nat) : RowOK False Try.prog 23 (row ad23 dq23 fun p => F23 K p.1 p.2.1 p.2.2.1 p.2.2.2) := row_ok fun x r h => has_of (cok23 K) Try.func23 ((ev23 (F21 K) (F30 K) K x.1 x.2.1 x.2.2.1 x.2.2.2).trans h)
noncomputable def tab7 (F16 : Option (Bool)) (F19 : (El T26) → (List (El T29)) → Int → Int → Option ((List (El T45)) × Int)) (F20 : (List (El T45)) → (List (El T45)) → Option (Bool)) (F17 : (El T26) → (El T29) → Int → Int → Option (Int × Int)) : Tab := ((((Tab.none.add 16 (row ad16 dq16 fun p => F16)).add 19 (row ad19 dq19 fun p => F19 p.1 p.2.1 p.2.2.1 p.2.2.2)).add 20 (row ad20 dq20 fun p => F20 p.1 p.2)).add 17 (row ad17 dq17 fun p => F17 p.1 p.2.1 p.2.2.1 p.2.2.2))
noncomputable def la7 : List (List Tidy) := [[.only [1, 2, 3, 5, 11, 12, 13], .pro 11 56 29 (T29), .ids [5, 24, 28, 31, 35, 56, 62, 70, 81, 87, 90, 94, 106, 111, 141, 143, 146], .top [1000000]], [.only [1, 2, 3, 5, 14, 18], .ids [5, 24, 28, 31, 35, 41, 51, 55, 56, 62, 70, 81, 87, 90, 141, 143, 146], .top [1000001]], [.only [1, 2, 3, 5, 14, 18, 19, 20, 21, 22], .ids [5, 24, 28, 31, 35, 41, 51, 55, 56, 62, 70, 81, 87, 90, 94, 106, 141, 143, 146], .top [1000002]]]
noncomputable def hd7_0 (a0 : El T26) (a1 : List (El T29)) (a2 : Int) (a3 : Int) (a4 : Int) (ps13 : Int) (ph56 : List (El T29)) : St := { tm := slots (nat_lit 148) [(nat_lit 1, AV.row T29 a1), (nat_lit 2, AV.sc (Value.int IntKind.i64 a2)), (nat_lit 3, AV.sc (Value.int IntKind.i64 a3)), (nat_lit 5, AV.ptr (nat_lit 5) (nat_lit 0)), (nat_lit 11, AV.own (nat_lit 56)), (nat_lit 12, AV.sc (Value.int IntKind.i64 (IntKind.i64.wrap ((IntKind.u64.wrap a4).tmod (IntKind.u64.wrap (↑a1.length : Int)))))), (nat_lit 13, AV.sc (Value.int IntKind.i64 ps13))], H := [(nat_lit 5, ABlk.box (nat_lit 26) (cellsOf T26 a0)), (nat_lit 56, ABlk.arr (nat_lit 29) T29 ph56)] }
noncomputable def hd7_1 (a0 : El T26) (a1 : List (El T29)) (a2 : Int) (a3 : Int) (a4 : Int) (ps18 : Int) (ph56 : List (El T29)) (ph62 : List (El T45)) (ph70 : List (El T45)) : St := { tm := slots (nat_lit 148) [(nat_lit 1, AV.row T29 a1), (nat_lit 2, AV.sc (Value.int IntKind.i64 a2)), (nat_lit 3, AV.sc (Value.int IntKind.i64 a3)), (nat_lit 5, AV.ptr (nat_lit 5) (nat_lit 0)), (nat_lit 14, AV.own (nat_lit 62)), (nat_lit 18, AV.sc (Value.int IntKind.i64 ps18))], H := [(nat_lit 5, ABlk.box (nat_lit 26) (cellsOf T26 a0)), (nat_lit 56, ABlk.arr (nat_lit 29) T29 ph56), (nat_lit 62, ABlk.arr (nat_lit 45) T45 ph62), (nat_lit 70, ABlk.arr (nat_lit 45) T45 ph70)] }
noncomputable def hd7_2 (a0 : El T26) (a1 : List (El T29)) (a2 : Int) (a3 : Int) (a4 : Int) (ps18 : Int) (ps19 : Int) (ps20 : Int) (ps21 : Int) (ps22 : Int) (ph56 : List (El T29)) (ph62 : List (El T45)) (ph70 : List (El T45)) : St := { tm := slots (nat_lit 148) [(nat_lit 1, AV.row T29 a1), (nat_lit 2, AV.sc (Value.int IntKind.i64 a2)), (nat_lit 3, AV.sc (Value.int IntKind.i64 a3)), (nat_lit 5, AV.ptr (nat_lit 5) (nat_lit 0)), (nat_lit 14, AV.own (nat_lit 62)), (nat_lit 18, AV.sc (Value.int IntKind.i64 ps18)), (nat_lit 19, AV.sc (Value.int IntKind.i64 ps19)), (nat_lit 20, AV.sc (Value.int IntKind.i64 ps20)), (nat_lit 21, AV.sc (Value.int IntKind.i64 ps21)), (nat_lit 22, AV.sc (Value.int IntKind.i64 ps22))], H := [(nat_lit 5, ABlk.box (nat_lit 26) (cellsOf T26 a0)), (nat_lit 56, ABlk.arr (nat_lit 29) T29 ph56), (nat_lit 62, ABlk.arr (nat_lit 45) T45 ph62), (nat_lit 70, ABlk.arr (nat_lit 45) T45 ph70)] }
noncomputable def b7_2 (F16 : Option (Bool)) (F19 : (El T26) → (List (El T29)) → Int → Int → Option ((List (El T45)) × Int)) (F20 : (List (El T45)) → (List (El T45)) → Option (Bool)) (F17 : (El T26) → (El T29) → Int → Int → Option (Int × Int)) (K : Nat) (a0 : El T26) (a1 : List (El T29)) (a2 : Int) (a3 : Int) (a4 : Int) (r1 : Int → (List (El T29)) → (List (El T45)) → (List (El T45)) → Option (Bool)) (r2 : Int → Int → Int → Int → Int → (List (El T29)) → (List (El T45)) → (List (El T45)) → Option (Bool)) (ps18 : Int) (ps19 : Int) (ps20 : Int) (ps21 : Int) (ps22 : Int) (ph56 : List (El T29)) (ph62 : List (El T45)) (ph70 : List (El T45)) : Option (Bool) :=(if decide (ps22 < (↑ph62.length : Int)) = true then (if decide ((0 : Int) ≤ ps22 ∧ ps22 < (↑ph62.length : Int)) = true then (if decide ((0 : Int) ≤ ps18 ∧ ps18 < (↑a1.length : Int)) = true then (if decide ((0 : Int) ≤ ps18 ∧ ps18 < (↑a1.length : Int)) = true then (if ((ph62.getD ps22.toNat (zEl T45)).1 == ps19 && ((ph62.getD ps22.toNat (zEl T45)).2.1 == (a1.getD ps18.toNat (zEl T29)).2.1 && (ph62.getD ps22.toNat (zEl T45)).2.2 == (a1.getD ps18.toNat (zEl T29)).1)) = true then r2 (ps18) (ps19) (ps20) (IntKind.i64.wrap (ps21 + (1 : Int))) (IntKind.i64.wrap (ps22 + (1 : Int))) (ph56) (ph62) (ph70)
      else r2 (ps18) (ps19) (ps20) (ps21) (IntKind.i64.wrap (ps22 + (1 : Int))) (ph56) (ph62) (ph70))
     else none)
    else none)
   else none)
  else (if (ps20 != (0 : Int)) = true then some (false)
   else (if (ps21 != (1 : Int)) = true then some (false)
    else r1 (IntKind.i64.wrap (ps18 + (1 : Int))) (ph56) (ph62) (ph70))))
noncomputable def L7_2 (F16 : Option (Bool)) (F19 : (El T26) → (List (El T29)) → Int → Int → Option ((List (El T45)) × Int)) (F20 : (List (El T45)) → (List (El T45)) → Option (Bool)) (F17 : (El T26) → (El T29) → Int → Int → Option (Int × Int)) (K : Nat) (a0 : El T26) (a1 : List (El T29)) (a2 : Int) (a3 : Int) (a4 : Int) (r1 : Int → (List (El T29)) → (List (El T45)) → (List (El T45)) → Option (Bool)) : Nat → Int → Int → Int → Int → Int → (List (El T29)) → (List (El T45)) → (List (El T45)) → Option (Bool)
  | 0, _, _, _, _, _, _, _, _ => none
  | n + 1, ps18, ps19, ps20, ps21, ps22, ph56, ph62, ph70 => b7_2 F16 F19 F20 F17 K a0 a1 a2 a3 a4 r1 (L7_2 F16 F19 F20 F17 K a0 a1 a2 a3 a4 r1 n) ps18 ps19 ps20 ps21 ps22 ph56 ph62 ph70
noncomputable def b7_1 (F16 : Option (Bool)) (F19 : (El T26) → (List (El T29)) → Int → Int → Option ((List (El T45)) × Int)) (F20 : (List (El T45)) → (List (El T45)) → Option (Bool)) (F17 : (El T26) → (El T29) → Int → Int → Option (Int × Int)) (K : Nat) (a0 : El T26) (a1 : List (El T29)) (a2 : Int) (a3 : Int) (a4 : Int) (r1 : Int → (List (El T29)) → (List (El T45)) → (List (El T45)) → Option (Bool)) (l2 : Nat → Int → Int → Int → Int → Int → (List (El T29)) → (List (El T45)) → (List (El T45)) → Option (Bool)) (ps18 : Int) (ph56 : List (El T29)) (ph62 : List (El T45)) (ph70 : List (El T45)) : Option (Bool) :=(if decide (ps18 < (↑a1.length : Int)) = true then (if decide ((0 : Int) ≤ ps18 ∧ ps18 < (↑a1.length : Int)) = true then 
    (Option.bind (F17 a0 (a1.getD ps18.toNat (zEl T29)) a2 a3) fun x6 => l2 K (ps18) (x6.1) (x6.2) ((0 : Int)) ((0 : Int)) (ph56) (ph62) (ph70))
   else none)
  else (if ((↑ph62.length : Int) == (↑a1.length : Int)) = true then 
    (Option.bind (F16) fun x7 => some (x7))
   else some (false)))
noncomputable def L7_1 (F16 : Option (Bool)) (F19 : (El T26) → (List (El T29)) → Int → Int → Option ((List (El T45)) × Int)) (F20 : (List (El T45)) → (List (El T45)) → Option (Bool)) (F17 : (El T26) → (El T29) → Int → Int → Option (Int × Int)) (K : Nat) (a0 : El T26) (a1 : List (El T29)) (a2 : Int) (a3 : Int) (a4 : Int) : Nat → Int → (List (El T29)) → (List (El T45)) → (List (El T45)) → Option (Bool)
  | 0, _, _, _, _ => none
  | n + 1, ps18, ph56, ph62, ph70 => b7_1 F16 F19 F20 F17 K a0 a1 a2 a3 a4 (L7_1 F16 F19 F20 F17 K a0 a1 a2 a3 a4 n) (L7_2 F16 F19 F20 F17 K a0 a1 a2 a3 a4 (L7_1 F16 F19 F20 F17 K a0 a1 a2 a3 a4 n)) ps18 ph56 ph62 ph70
noncomputable def b7_0 (F16 : Option (Bool)) (F19 : (El T26) → (List (El T29)) → Int → Int → Option ((List (El T45)) × Int)) (F20 : (List (El T45)) → (List (El T45)) → Option (Bool)) (F17 : (El T26) → (El T29) → Int → Int → Option (Int × Int)) (K : Nat) (a0 : El T26) (a1 : List (El T29)) (a2 : Int) (a3 : Int) (a4 : Int) (r0 : Int → (List (El T29)) → Option (Bool)) (l1 : Nat → Int → (List (El T29)) → (List (El T45)) → (List (El T45)) → Option (Bool)) (ps13 : Int) (ph56 : List (El T29)) : Option (Bool) :=(if decide (ps13 < (↑a1.length : Int)) = true then (if (!(↑a1.length : Int) == (0 : Int)) = true then (if decide ((0 : Int) ≤ (IntKind.i64.wrap (ps13 + IntKind.i64.wrap ((IntKind.u64.wrap a4).tmod (IntKind.u64.wrap (↑a1.length : Int))))).tmod (↑a1.length : Int) ∧ (IntKind.i64.wrap (ps13 + IntKind.i64.wrap ((IntKind.u64.wrap a4).tmod (IntKind.u64.wrap (↑a1.length : Int))))).tmod (↑a1.length : Int) < (↑a1.length : Int)) = true then (if decide ((ph56.length + [a1.getD ((IntKind.i64.wrap (ps13 + IntKind.i64.wrap ((IntKind.u64.wrap a4).tmod (IntKind.u64.wrap (↑a1.length : Int))))).tmod (↑a1.length : Int)).toNat (zEl T29)].length) * Try.prog.types[(29 : Nat)].bytes ≤ (140737488355328 : Nat)) = true then r0 (IntKind.i64.wrap (ps13 + (1 : Int))) (ph56 ++ [a1.getD ((IntKind.i64.wrap (ps13 + IntKind.i64.wrap ((IntKind.u64.wrap a4).tmod (IntKind.u64.wrap (↑a1.length : Int))))).tmod (↑a1.length : Int)).toNat (zEl T29)])
     else none)
    else none)
   else none)
  else 
   (Option.bind (F19 a0 a1 a2 a3) fun x2 => 
    (Option.bind (F19 a0 ph56 a2 a3) fun x3 => (if (!(x2.2 == (0 : Int)) == (x3.2 == (0 : Int))) = true then some (false)
     else 
      (Option.bind (F20 x2.1 x3.1) fun x4 => (if (!x4) = true then some (false)
       else (if (x2.2 != (0 : Int)) = true then (if ((↑x2.1.length : Int) == (0 : Int)) = true then 
          (Option.bind (F16) fun x5 => some (x5))
         else some (false))
        else l1 K ((0 : Int)) (ph56) (x2.1) (x3.1))))))))
noncomputable def L7_0 (F16 : Option (Bool)) (F19 : (El T26) → (List (El T29)) → Int → Int → Option ((List (El T45)) × Int)) (F20 : (List (El T45)) → (List (El T45)) → Option (Bool)) (F17 : (El T26) → (El T29) → Int → Int → Option (Int × Int)) (K : Nat) (a0 : El T26) (a1 : List (El T29)) (a2 : Int) (a3 : Int) (a4 : Int) : Nat → Int → (List (El T29)) → Option (Bool)
  | 0, _, _ => none
  | n + 1, ps13, ph56 => b7_0 F16 F19 F20 F17 K a0 a1 a2 a3 a4 (L7_0 F16 F19 F20 F17 K a0 a1 a2 a3 a4 n) (L7_1 F16 F19 F20 F17 K a0 a1 a2 a3 a4) ps13 ph56
noncomputable def t7 (F16 : Option (Bool)) (F19 : (El T26) → (List (El T29)) → Int → Int → Option ((List (El T45)) × Int)) (F20 : (List (El T45)) → (List (El T45)) → Option (Bool)) (F17 : (El T26) → (El T29) → Int → Int → Option (Int × Int)) (K : Nat) (a0 : El T26) (a1 : List (El T29)) (a2 : Int) (a3 : Int) (a4 : Int) (l0 : Nat → Int → (List (El T29)) → Option (Bool)) : Option (Bool) := (if decide ((↑a1.length : Int) > (100 : Int)) = true then 
  (Option.bind (F16) fun x0 => some (x0))
 else (if ((↑a1.length : Int) == (0 : Int)) = true then 
   (Option.bind (F16) fun x1 => some (x1))
  else (if (!IntKind.u64.wrap (↑a1.length : Int) == (0 : Int)) = true then l0 K ((0 : Int)) ([])
   else none)))
noncomputable def G7 (F16 : Option (Bool)) (F19 : (El T26) → (List (El T29)) → Int → Int → Option ((List (El T45)) × Int)) (F20 : (List (El T45)) → (List (El T45)) → Option (Bool)) (F17 : (El T26) → (El T29) → Int → Int → Option (Int × Int)) (K : Nat) (a0 : El T26) (a1 : List (El T29)) (a2 : Int) (a3 : Int) (a4 : Int) : Option (Bool) := t7 F16 F19 F20 F17 K a0 a1 a2 a3 a4 (L7_0 F16 F19 F20 F17 K a0 a1 a2 a3 a4)
theorem lp7_2 (F16 : Option (Bool)) (F19 : (El T26) → (List (El T29)) → Int → Int → Option ((List (El T45)) × Int)) (F20 : (List (El T45)) → (List (El T45)) → Option (Bool)) (F17 : (El T26) → (El T29) → Int → Int → Option (Int × Int)) (K : Nat) (a0 : El T26) (a1 : List (El T29)) (a2 : Int) (a3 : Int) (a4 : Int) : ∀ (m1 : Nat) (n : Nat) (ps18 : Int) (ps19 : Int) (ps20 : Int) (ps21 : Int) (ps22 : Int) (ph56 : List (El T29)) (ph62 : List (El T45)) (ph70 : List (El T45)), loopN Try.prog (tab7 F16 F19 F20 F17) 0 K Try.f7 la7 dq7.k 2 [m1] n (hd7_2 a0 a1 a2 a3 a4 ps18 ps19 ps20 ps21 ps22 ph56 ph62 ph70) = L7_2 F16 F19 F20 F17 K a0 a1 a2 a3 a4 (fun q0 q1 q2 q3 => loopN Try.prog (tab7 F16 F19 F20 F17) 0 K Try.f7 la7 dq7.k 1 [] m1 (hd7_1 a0 a1 a2 a3 a4 q0 q1 q2 q3)) n ps18 ps19 ps20 ps21 ps22 ph56 ph62 ph70
  | m1, 0, _, _, _, _, _, _, _, _ => by kernel_rfl
  | m1, n + 1, ps18, ps19, ps20, ps21, ps22, ph56, ph62, ph70 => by
    have h : loopN Try.prog (tab7 F16 F19 F20 F17) 0 K Try.f7 la7 dq7.k 2 [m1] (n + 1) (hd7_2 a0 a1 a2 a3 a4 ps18 ps19 ps20 ps21 ps22 ph56 ph62 ph70) = b7_2 F16 F19 F20 F17 K a0 a1 a2 a3 a4 (fun q0 q1 q2 q3 => loopN Try.prog (tab7 F16 F19 F20 F17) 0 K Try.f7 la7 dq7.k 1 [] m1 (hd7_1 a0 a1 a2 a3 a4 q0 q1 q2 q3)) (fun q0 q1 q2 q3 q4 q5 q6 q7 => loopN Try.prog (tab7 F16 F19 F20 F17) 0 K Try.f7 la7 dq7.k 2 [m1] n (hd7_2 a0 a1 a2 a3 a4 q0 q1 q2 q3 q4 q5 q6 q7)) ps18 ps19 ps20 ps21 ps22 ph56 ph62 ph70 := by kernel_rfl
    rw [h]
    simp only [lp7_2 F16 F19 F20 F17 K a0 a1 a2 a3 a4 m1 n]
    rfl
theorem lp7_1 (F16 : Option (Bool)) (F19 : (El T26) → (List (El T29)) → Int → Int → Option ((List (El T45)) × Int)) (F20 : (List (El T45)) → (List (El T45)) → Option (Bool)) (F17 : (El T26) → (El T29) → Int → Int → Option (Int × Int)) (K : Nat) (a0 : El T26) (a1 : List (El T29)) (a2 : Int) (a3 : Int) (a4 : Int) : ∀ (n : Nat) (ps18 : Int) (ph56 : List (El T29)) (ph62 : List (El T45)) (ph70 : List (El T45)), loopN Try.prog (tab7 F16 F19 F20 F17) 0 K Try.f7 la7 dq7.k 1 [] n (hd7_1 a0 a1 a2 a3 a4 ps18 ph56 ph62 ph70) = L7_1 F16 F19 F20 F17 K a0 a1 a2 a3 a4 n ps18 ph56 ph62 ph70
  | 0, _, _, _, _ => by kernel_rfl
  | n + 1, ps18, ph56, ph62, ph70 => by
    have h : loopN Try.prog (tab7 F16 F19 F20 F17) 0 K Try.f7 la7 dq7.k 1 [] (n + 1) (hd7_1 a0 a1 a2 a3 a4 ps18 ph56 ph62 ph70) = b7_1 F16 F19 F20 F17 K a0 a1 a2 a3 a4 (fun q0 q1 q2 q3 => loopN Try.prog (tab7 F16 F19 F20 F17) 0 K Try.f7 la7 dq7.k 1 [] n (hd7_1 a0 a1 a2 a3 a4 q0 q1 q2 q3)) (fun k q0 q1 q2 q3 q4 q5 q6 q7 => loopN Try.prog (tab7 F16 F19 F20 F17) 0 K Try.f7 la7 dq7.k 2 [n] k (hd7_2 a0 a1 a2 a3 a4 q0 q1 q2 q3 q4 q5 q6 q7)) ps18 ph56 ph62 ph70 := by kernel_rfl
    rw [h]
    simp only [lp7_1 F16 F19 F20 F17 K a0 a1 a2 a3 a4 n, lp7_2 F16 F19 F20 F17 K a0 a1 a2 a3 a4 n]
    rfl
theorem lp7_0 (F16 : Option (Bool)) (F19 : (El T26) → (List (El T29)) → Int → Int → Option ((List (El T45)) × Int)) (F20 : (List (El T45)) → (List (El T45)) → Option (Bool)) (F17 : (El T26) → (El T29) → Int → Int → Option (Int × Int)) (K : Nat) (a0 : El T26) (a1 : List (El T29)) (a2 : Int) (a3 : Int) (a4 : Int) : ∀ (n : Nat) (ps13 : Int) (ph56 : List (El T29)), loopN Try.prog (tab7 F16 F19 F20 F17) 0 K Try.f7 la7 dq7.k 0 [] n (hd7_0 a0 a1 a2 a3 a4 ps13 ph56) = L7_0 F16 F19 F20 F17 K a0 a1 a2 a3 a4 n ps13 ph56
  | 0, _, _ => by kernel_rfl
  | n + 1, ps13, ph56 => by
    have h : loopN Try.prog (tab7 F16 F19 F20 F17) 0 K Try.f7 la7 dq7.k 0 [] (n + 1) (hd7_0 a0 a1 a2 a3 a4 ps13 ph56) = b7_0 F16 F19 F20 F17 K a0 a1 a2 a3 a4 (fun q0 q1 => loopN Try.prog (tab7 F16 F19 F20 F17) 0 K Try.f7 la7 dq7.k 0 [] n (hd7_0 a0 a1 a2 a3 a4 q0 q1)) (fun k q0 q1 q2 q3 => loopN Try.prog (tab7 F16 F19 F20 F17) 0 K Try.f7 la7 dq7.k 1 [] k (hd7_1 a0 a1 a2 a3 a4 q0 q1 q2 q3)) ps13 ph56 := by kernel_rfl
    rw [h]
    simp only [lp7_0 F16 F19 F20 F17 K a0 a1 a2 a3 a4 n, lp7_1 F16 F19 F20 F17 K a0 a1 a2 a3 a4]
    rfl
theorem ev7 (F16 : Option (Bool)) (F19 : (El T26) → (List (El T29)) → Int → Int → Option ((List (El T45)) × Int)) (F20 : (List (El T45)) → (List (El T45)) → Option (Bool)) (F17 : (El T26) → (El T29) → Int → Int → Option (Int × Int)) (K : Nat) (a0 : El T26) (a1 : List (El T29)) (a2 : Int) (a3 : Int) (a4 : Int) : evFun Try.prog (tab7 F16 F19 F20 F17) 0 K Try.f7 la7 [.agg (cellsOf T26 a0), .row T29 a1, I .i64 a2, I .i64 a3, I .i64 a4] [] dq7.k = G7 F16 F19 F20 F17 K a0 a1 a2 a3 a4 := by
  have h : evFun Try.prog (tab7 F16 F19 F20 F17) 0 K Try.f7 la7 [.agg (cellsOf T26 a0), .row T29 a1, I .i64 a2, I .i64 a3, I .i64 a4] [] dq7.k = t7 F16 F19 F20 F17 K a0 a1 a2 a3 a4 (fun k q0 q1 => loopN Try.prog (tab7 F16 F19 F20 F17) 0 K Try.f7 la7 dq7.k 0 [] k (hd7_0 a0 a1 a2 a3 a4 q0 q1)) := by kernel_rfl
  rw [h]
  simp only [lp7_0 F16 F19 F20 F17 K a0 a1 a2 a3 a4]
  rfl
noncomputable def F7 (K : Nat) (a0 : El T26) (a1 : List (El T29)) (a2 : Int) (a3 : Int) (a4 : Int) : Option (Bool) := G7 (F16 K) (F19 K) (F20 K) (F17 K) K a0 a1 a2 a3 a4
theorem cok7 (K : Nat) : CallOK False Try.prog (tab7 (F16 K) (F19 K) (F20 K) (F17 K)) := (add_ok (add_ok (add_ok (add_ok none_ok ent16 (ok16 K)) ent19 (ok19 K)) ent20 (ok20 K)) ent17 (ok17 K))
theorem ok7 (K : Nat) : RowOK False Try.prog 7 (row ad7 dq7 fun p => F7 K p.1 p.2.1 p.2.2.1 p.2.2.2.1 p.2.2.2.2) := row_ok fun x r h => has_of (cok7 K) Try.func7 ((ev7 (F16 K) (F19 K) (F20 K) (F17 K) K x.1 x.2.1 x.2.2.1 x.2.2.2.1 x.2.2.2.2).trans h)
noncomputable def tab8 (F16 : Option (Bool)) (F19 : (El T26) → (List (El T29)) → Int → Int → Option ((List (El T45)) × Int)) (F21 : (El T26) → (List (El T29)) → Int → Int → Option ((List (El T45)) × Int)) (F22 : (El T26) → (List (El T29)) → Int → Int → Option (Int × Int)) (F23 : (El T26) → (List (El T29)) → Int → Int → Option (Int × Int)) (F20 : (List (El T45)) → (List (El T45)) → Option (Bool)) : Tab := ((((((Tab.none.add 16 (row ad16 dq16 fun p => F16)).add 19 (row ad19 dq19 fun p => F19 p.1 p.2.1 p.2.2.1 p.2.2.2)).add 21 (row ad21 dq21 fun p => F21 p.1 p.2.1 p.2.2.1 p.2.2.2)).add 22 (row ad22 dq22 fun p => F22 p.1 p.2.1 p.2.2.1 p.2.2.2)).add 23 (row ad23 dq23 fun p => F23 p.1 p.2.1 p.2.2.1 p.2.2.2)).add 20 (row ad20 dq20 fun p => F20 p.1 p.2))
noncomputable def la8 : List (List Tidy) := [[.only [1, 9, 10, 11, 12, 13, 14, 15, 16, 17, 18], .ids [4, 20, 22, 25, 31, 39, 47, 55, 75, 92], .top [1000000]]]
noncomputable def hd8_0 (a0 : El T26) (a1 : List (El T29)) (a2 : Int) (a3 : Int) (ps11 : Int) (ps13 : Int) (ps14 : Int) (ps15 : Int) (ps16 : Int) (ps17 : Int) (ps18 : Int) (ph31 : List (El T45)) (ph39 : List (El T45)) : St := { tm := slots (nat_lit 94) [(nat_lit 1, AV.row T29 a1), (nat_lit 9, AV.own (nat_lit 25)), (nat_lit 10, AV.own (nat_lit 31)), (nat_lit 11, AV.sc (Value.int IntKind.i64 ps11)), (nat_lit 12, AV.own (nat_lit 39)), (nat_lit 13, AV.sc (Value.int IntKind.i64 ps13)), (nat_lit 14, AV.sc (Value.int IntKind.u32 ps14)), (nat_lit 15, AV.sc (Value.int IntKind.i64 ps15)), (nat_lit 16, AV.sc (Value.int IntKind.u32 ps16)), (nat_lit 17, AV.sc (Value.int IntKind.i64 ps17)), (nat_lit 18, AV.sc (Value.int IntKind.i64 ps18))], H := [(nat_lit 4, ABlk.box (nat_lit 26) (cellsOf T26 a0)), (nat_lit 25, ABlk.arr (nat_lit 29) T29 a1), (nat_lit 31, ABlk.arr (nat_lit 45) T45 ph31), (nat_lit 39, ABlk.arr (nat_lit 45) T45 ph39)] }
noncomputable def b8_0 (F16 : Option (Bool)) (F19 : (El T26) → (List (El T29)) → Int → Int → Option ((List (El T45)) × Int)) (F21 : (El T26) → (List (El T29)) → Int → Int → Option ((List (El T45)) × Int)) (F22 : (El T26) → (List (El T29)) → Int → Int → Option (Int × Int)) (F23 : (El T26) → (List (El T29)) → Int → Int → Option (Int × Int)) (F20 : (List (El T45)) → (List (El T45)) → Option (Bool)) (K : Nat) (a0 : El T26) (a1 : List (El T29)) (a2 : Int) (a3 : Int) (r0 : Int → Int → Int → Int → Int → Int → Int → (List (El T45)) → (List (El T45)) → Option (Bool)) (ps11 : Int) (ps13 : Int) (ps14 : Int) (ps15 : Int) (ps16 : Int) (ps17 : Int) (ps18 : Int) (ph31 : List (El T45)) (ph39 : List (El T45)) : Option (Bool) :=(if decide (ps18 < (↑a1.length : Int)) = true then (if decide ((0 : Int) ≤ ps18 ∧ ps18 < (↑a1.length : Int)) = true then (if decide ((0 : Int) ≤ ps18 ∧ ps18 < (↑a1.length : Int)) = true then (if (!((a1.getD ps18.toNat (zEl T29)).1 == (a1.getD ps18.toNat (zEl T29)).1 && ((a1.getD ps18.toNat (zEl T29)).2.1 == (a1.getD ps18.toNat (zEl T29)).2.1 && ((a1.getD ps18.toNat (zEl T29)).2.2.1 == (a1.getD ps18.toNat (zEl T29)).2.2.1 && ((a1.getD ps18.toNat (zEl T29)).2.2.2.1 == (a1.getD ps18.toNat (zEl T29)).2.2.2.1 && ((a1.getD ps18.toNat (zEl T29)).2.2.2.2.1 == (a1.getD ps18.toNat (zEl T29)).2.2.2.2.1 && ((a1.getD ps18.toNat (zEl T29)).2.2.2.2.2.1 == (a1.getD ps18.toNat (zEl T29)).2.2.2.2.2.1 && (a1.getD ps18.toNat (zEl T29)).2.2.2.2.2.2 == (a1.getD ps18.toNat (zEl T29)).2.2.2.2.2.2))))))) = true then some (false)
     else r0 (ps11) (ps13) (ps14) (ps15) (ps16) (ps17) (IntKind.i64.wrap (ps18 + (1 : Int))) (ph31) (ph39))
    else none)
   else none)
  else 
   (Option.bind (F20 ph31 ph39) fun x5 => (if x5 = true then (if (ps11 == ps13) = true then (if (ps14 == ps16) = true then (if (ps15 == ps17) = true then 
        (Option.bind (F16) fun x6 => some (x6))
       else some (false))
      else some (false))
     else some (false))
    else some (false))))
noncomputable def L8_0 (F16 : Option (Bool)) (F19 : (El T26) → (List (El T29)) → Int → Int → Option ((List (El T45)) × Int)) (F21 : (El T26) → (List (El T29)) → Int → Int → Option ((List (El T45)) × Int)) (F22 : (El T26) → (List (El T29)) → Int → Int → Option (Int × Int)) (F23 : (El T26) → (List (El T29)) → Int → Int → Option (Int × Int)) (F20 : (List (El T45)) → (List (El T45)) → Option (Bool)) (K : Nat) (a0 : El T26) (a1 : List (El T29)) (a2 : Int) (a3 : Int) : Nat → Int → Int → Int → Int → Int → Int → Int → (List (El T45)) → (List (El T45)) → Option (Bool)
  | 0, _, _, _, _, _, _, _, _, _ => none
  | n + 1, ps11, ps13, ps14, ps15, ps16, ps17, ps18, ph31, ph39 => b8_0 F16 F19 F21 F22 F23 F20 K a0 a1 a2 a3 (L8_0 F16 F19 F21 F22 F23 F20 K a0 a1 a2 a3 n) ps11 ps13 ps14 ps15 ps16 ps17 ps18 ph31 ph39
noncomputable def t8 (F16 : Option (Bool)) (F19 : (El T26) → (List (El T29)) → Int → Int → Option ((List (El T45)) × Int)) (F21 : (El T26) → (List (El T29)) → Int → Int → Option ((List (El T45)) × Int)) (F22 : (El T26) → (List (El T29)) → Int → Int → Option (Int × Int)) (F23 : (El T26) → (List (El T29)) → Int → Int → Option (Int × Int)) (F20 : (List (El T45)) → (List (El T45)) → Option (Bool)) (K : Nat) (a0 : El T26) (a1 : List (El T29)) (a2 : Int) (a3 : Int) (l0 : Nat → Int → Int → Int → Int → Int → Int → Int → (List (El T45)) → (List (El T45)) → Option (Bool)) : Option (Bool) := (if decide ((↑a1.length : Int) > (200 : Int)) = true then 
  (Option.bind (F16) fun x0 => some (x0))
 else (if decide (a1.length * Try.prog.types[(29 : Nat)].bytes ≤ (140737488355328 : Nat)) = true then 
   (Option.bind (F19 a0 a1 a2 a3) fun x1 => 
    (Option.bind (F21 a0 a1 a2 a3) fun x2 => 
     (Option.bind (F22 a0 a1 a2 a3) fun x3 => 
      (Option.bind (F23 a0 a1 a2 a3) fun x4 => l0 K (x1.2) (x2.2) (x3.1) (x3.2) (x4.1) (x4.2) ((0 : Int)) (x1.1) (x2.1)))))
  else none))
noncomputable def G8 (F16 : Option (Bool)) (F19 : (El T26) → (List (El T29)) → Int → Int → Option ((List (El T45)) × Int)) (F21 : (El T26) → (List (El T29)) → Int → Int → Option ((List (El T45)) × Int)) (F22 : (El T26) → (List (El T29)) → Int → Int → Option (Int × Int)) (F23 : (El T26) → (List (El T29)) → Int → Int → Option (Int × Int)) (F20 : (List (El T45)) → (List (El T45)) → Option (Bool)) (K : Nat) (a0 : El T26) (a1 : List (El T29)) (a2 : Int) (a3 : Int) : Option (Bool) := t8 F16 F19 F21 F22 F23 F20 K a0 a1 a2 a3 (L8_0 F16 F19 F21 F22 F23 F20 K a0 a1 a2 a3)
theorem lp8_0 (F16 : Option (Bool)) (F19 : (El T26) → (List (El T29)) → Int → Int → Option ((List (El T45)) × Int)) (F21 : (El T26) → (List (El T29)) → Int → Int → Option ((List (El T45)) × Int)) (F22 : (El T26) → (List (El T29)) → Int → Int → Option (Int × Int)) (F23 : (El T26) → (List (El T29)) → Int → Int → Option (Int × Int)) (F20 : (List (El T45)) → (List (El T45)) → Option (Bool)) (K : Nat) (a0 : El T26) (a1 : List (El T29)) (a2 : Int) (a3 : Int) : ∀ (n : Nat) (ps11 : Int) (ps13 : Int) (ps14 : Int) (ps15 : Int) (ps16 : Int) (ps17 : Int) (ps18 : Int) (ph31 : List (El T45)) (ph39 : List (El T45)), loopN Try.prog (tab8 F16 F19 F21 F22 F23 F20) 0 K Try.f8 la8 dq8.k 0 [] n (hd8_0 a0 a1 a2 a3 ps11 ps13 ps14 ps15 ps16 ps17 ps18 ph31 ph39) = L8_0 F16 F19 F21 F22 F23 F20 K a0 a1 a2 a3 n ps11 ps13 ps14 ps15 ps16 ps17 ps18 ph31 ph39
  | 0, _, _, _, _, _, _, _, _, _ => by kernel_rfl
  | n + 1, ps11, ps13, ps14, ps15, ps16, ps17, ps18, ph31, ph39 => by
    have h : loopN Try.prog (tab8 F16 F19 F21 F22 F23 F20) 0 K Try.f8 la8 dq8.k 0 [] (n + 1) (hd8_0 a0 a1 a2 a3 ps11 ps13 ps14 ps15 ps16 ps17 ps18 ph31 ph39) = b8_0 F16 F19 F21 F22 F23 F20 K a0 a1 a2 a3 (fun q0 q1 q2 q3 q4 q5 q6 q7 q8 => loopN Try.prog (tab8 F16 F19 F21 F22 F23 F20) 0 K Try.f8 la8 dq8.k 0 [] n (hd8_0 a0 a1 a2 a3 q0 q1 q2 q3 q4 q5 q6 q7 q8)) ps11 ps13 ps14 ps15 ps16 ps17 ps18 ph31 ph39 := by kernel_rfl
    rw [h]
    simp only [lp8_0 F16 F19 F21 F22 F23 F20 K a0 a1 a2 a3 n]
    rfl
theorem ev8 (F16 : Option (Bool)) (F19 : (El T26) → (List (El T29)) → Int → Int → Option ((List (El T45)) × Int)) (F21 : (El T26) → (List (El T29)) → Int → Int → Option ((List (El T45)) × Int)) (F22 : (El T26) → (List (El T29)) → Int → Int → Option (Int × Int)) (F23 : (El T26) → (List (El T29)) → Int → Int → Option (Int × Int)) (F20 : (List (El T45)) → (List (El T45)) → Option (Bool)) (K : Nat) (a0 : El T26) (a1 : List (El T29)) (a2 : Int) (a3 : Int) : evFun Try.prog (tab8 F16 F19 F21 F22 F23 F20) 0 K Try.f8 la8 [.agg (cellsOf T26 a0), .row T29 a1, I .i64 a2, I .i64 a3] [] dq8.k = G8 F16 F19 F21 F22 F23 F20 K a0 a1 a2 a3 := by
  have h : evFun Try.prog (tab8 F16 F19 F21 F22 F23 F20) 0 K Try.f8 la8 [.agg (cellsOf T26 a0), .row T29 a1, I .i64 a2, I .i64 a3] [] dq8.k = t8 F16 F19 F21 F22 F23 F20 K a0 a1 a2 a3 (fun k q0 q1 q2 q3 q4 q5 q6 q7 q8 => loopN Try.prog (tab8 F16 F19 F21 F22 F23 F20) 0 K Try.f8 la8 dq8.k 0 [] k (hd8_0 a0 a1 a2 a3 q0 q1 q2 q3 q4 q5 q6 q7 q8)) := by kernel_rfl
  rw [h]
  simp only [lp8_0 F16 F19 F21 F22 F23 F20 K a0 a1 a2 a3]
  rfl
noncomputable def F8 (K : Nat) (a0 : El T26) (a1 : List (El T29)) (a2 : Int) (a3 : Int) : Option (Bool) := G8 (F16 K) (F19 K) (F21 K) (F22 K) (F23 K) (F20 K) K a0 a1 a2 a3
theorem cok8 (K : Nat) : CallOK False Try.prog (tab8 (F16 K) (F19 K) (F21 K) (F22 K) (F23 K) (F20 K)) := (add_ok (add_ok (add_ok (add_ok (add_ok (add_ok none_ok ent16 (ok16 K)) ent19 (ok19 K)) ent21 (ok21 K)) ent22 (ok22 K)) ent23 (ok23 K)) ent20 (ok20 K))
theorem ok8 (K : Nat) : RowOK False Try.prog 8 (row ad8 dq8 fun p => F8 K p.1 p.2.1 p.2.2.1 p.2.2.2) := row_ok fun x r h => has_of (cok8 K) Try.func8 ((ev8 (F16 K) (F19 K) (F21 K) (F22 K) (F23 K) (F20 K) K x.1 x.2.1 x.2.2.1 x.2.2.2).trans h)
noncomputable def tab9 (F16 : Option (Bool)) (F17 : (El T26) → (El T29) → Int → Int → Option (Int × Int)) (F22 : (El T26) → (List (El T29)) → Int → Int → Option (Int × Int)) : Tab := (((Tab.none.add 16 (row ad16 dq16 fun p => F16)).add 17 (row ad17 dq17 fun p => F17 p.1 p.2.1 p.2.2.1 p.2.2.2)).add 22 (row ad22 dq22 fun p => F22 p.1 p.2.1 p.2.2.1 p.2.2.2))
noncomputable def la9 : List (List Tidy) := [[.only [2, 3, 4, 6, 22, 24], .ids [6, 7, 13, 14, 19, 29, 31, 40, 41, 60, 65, 70, 73, 89, 92, 118, 123, 173], .top [1000000]], [.only [2, 3, 4, 6, 22, 24, 25], .ids [6, 7, 13, 14, 19, 29, 31, 40, 41, 60, 65, 70, 73, 89, 92, 118, 123, 126, 173], .top [1000001]]]
noncomputable def hd9_0 (a0 : El T26) (a1 : El T29) (a2 : List (El T29)) (a3 : Int) (a4 : Int) (a5 : Int) (ps22 : Int) (ps24 : Int) : St := { tm := slots (nat_lit 174) [(nat_lit 2, AV.row T29 a2), (nat_lit 3, AV.sc (Value.int IntKind.i64 a3)), (nat_lit 4, AV.sc (Value.int IntKind.i64 a4)), (nat_lit 6, AV.ptr (nat_lit 6) (nat_lit 0)), (nat_lit 22, AV.sc (Value.int IntKind.u32 ps22)), (nat_lit 24, AV.sc (Value.int IntKind.i64 ps24))], H := [(nat_lit 6, ABlk.box (nat_lit 26) (cellsOf T26 a0)), (nat_lit 7, ABlk.box (nat_lit 29) (cellsOf T29 a1)), (nat_lit 13, ABlk.box (nat_lit 29) (cellsOf T29 (IntKind.u32.wrap (Int.tmod a1.1 (4000000000 : Int) + (1 : Int)), IntKind.i64.wrap ((if (1125899906842624 : Int) < if (0 : Int) > a1.2.1 then (0 : Int) else a1.2.1 then (1125899906842624 : Int) else if (0 : Int) > a1.2.1 then (0 : Int) else a1.2.1) + IntKind.i64.wrap a5), a1.2.2))), (nat_lit 14, ABlk.box (nat_lit 29) (cellsOf T29 (IntKind.u32.wrap (Int.tmod a1.1 (4000000000 : Int) + (2 : Int)), IntKind.i64.wrap ((if (1125899906842624 : Int) < if (0 : Int) > a1.2.1 then (0 : Int) else a1.2.1 then (1125899906842624 : Int) else if (0 : Int) > a1.2.1 then (0 : Int) else a1.2.1) + IntKind.i64.wrap a5), a1.2.2))), (nat_lit 19, ABlk.box (nat_lit 29) (cellsOf T29 (IntKind.u32.wrap (IntKind.u32.wrap (Int.tmod a1.1 (4000000000 : Int) + (2 : Int)) + (1 : Int)), IntKind.i64.wrap (IntKind.i64.wrap ((if (1125899906842624 : Int) < if (0 : Int) > a1.2.1 then (0 : Int) else a1.2.1 then (1125899906842624 : Int) else if (0 : Int) > a1.2.1 then (0 : Int) else a1.2.1) + IntKind.i64.wrap a5) + (1 : Int)), a1.2.2))), (nat_lit 70, ABlk.arr (nat_lit 29) T29 [(IntKind.u32.wrap (Int.tmod a1.1 (4000000000 : Int) + (2 : Int)), IntKind.i64.wrap ((if (1125899906842624 : Int) < if (0 : Int) > a1.2.1 then (0 : Int) else a1.2.1 then (1125899906842624 : Int) else if (0 : Int) > a1.2.1 then (0 : Int) else a1.2.1) + IntKind.i64.wrap a5), a1.2.2), (IntKind.u32.wrap (Int.tmod a1.1 (4000000000 : Int) + (1 : Int)), IntKind.i64.wrap ((if (1125899906842624 : Int) < if (0 : Int) > a1.2.1 then (0 : Int) else a1.2.1 then (1125899906842624 : Int) else if (0 : Int) > a1.2.1 then (0 : Int) else a1.2.1) + IntKind.i64.wrap a5), a1.2.2)]), (nat_lit 89, ABlk.arr (nat_lit 29) T29 [(IntKind.u32.wrap (IntKind.u32.wrap (Int.tmod a1.1 (4000000000 : Int) + (2 : Int)) + (1 : Int)), IntKind.i64.wrap (IntKind.i64.wrap ((if (1125899906842624 : Int) < if (0 : Int) > a1.2.1 then (0 : Int) else a1.2.1 then (1125899906842624 : Int) else if (0 : Int) > a1.2.1 then (0 : Int) else a1.2.1) + IntKind.i64.wrap a5) + (1 : Int)), a1.2.2), (IntKind.u32.wrap (Int.tmod a1.1 (4000000000 : Int) + (1 : Int)), IntKind.i64.wrap ((if (1125899906842624 : Int) < if (0 : Int) > a1.2.1 then (0 : Int) else a1.2.1 then (1125899906842624 : Int) else if (0 : Int) > a1.2.1 then (0 : Int) else a1.2.1) + IntKind.i64.wrap a5), a1.2.2)])] }
noncomputable def hd9_1 (a0 : El T26) (a1 : El T29) (a2 : List (El T29)) (a3 : Int) (a4 : Int) (a5 : Int) (ps22 : Int) (ps24 : Int) (ps25 : Int) : St := { tm := slots (nat_lit 174) [(nat_lit 2, AV.row T29 a2), (nat_lit 3, AV.sc (Value.int IntKind.i64 a3)), (nat_lit 4, AV.sc (Value.int IntKind.i64 a4)), (nat_lit 6, AV.ptr (nat_lit 6) (nat_lit 0)), (nat_lit 22, AV.sc (Value.int IntKind.u32 ps22)), (nat_lit 24, AV.sc (Value.int IntKind.i64 ps24)), (nat_lit 25, AV.sc (Value.int IntKind.i64 ps25))], H := [(nat_lit 6, ABlk.box (nat_lit 26) (cellsOf T26 a0)), (nat_lit 7, ABlk.box (nat_lit 29) (cellsOf T29 a1)), (nat_lit 13, ABlk.box (nat_lit 29) (cellsOf T29 (IntKind.u32.wrap (Int.tmod a1.1 (4000000000 : Int) + (1 : Int)), IntKind.i64.wrap ((if (1125899906842624 : Int) < if (0 : Int) > a1.2.1 then (0 : Int) else a1.2.1 then (1125899906842624 : Int) else if (0 : Int) > a1.2.1 then (0 : Int) else a1.2.1) + IntKind.i64.wrap a5), a1.2.2))), (nat_lit 14, ABlk.box (nat_lit 29) (cellsOf T29 (IntKind.u32.wrap (Int.tmod a1.1 (4000000000 : Int) + (2 : Int)), IntKind.i64.wrap ((if (1125899906842624 : Int) < if (0 : Int) > a1.2.1 then (0 : Int) else a1.2.1 then (1125899906842624 : Int) else if (0 : Int) > a1.2.1 then (0 : Int) else a1.2.1) + IntKind.i64.wrap a5), a1.2.2))), (nat_lit 19, ABlk.box (nat_lit 29) (cellsOf T29 (IntKind.u32.wrap (IntKind.u32.wrap (Int.tmod a1.1 (4000000000 : Int) + (2 : Int)) + (1 : Int)), IntKind.i64.wrap (IntKind.i64.wrap ((if (1125899906842624 : Int) < if (0 : Int) > a1.2.1 then (0 : Int) else a1.2.1 then (1125899906842624 : Int) else if (0 : Int) > a1.2.1 then (0 : Int) else a1.2.1) + IntKind.i64.wrap a5) + (1 : Int)), a1.2.2))), (nat_lit 70, ABlk.arr (nat_lit 29) T29 [(IntKind.u32.wrap (Int.tmod a1.1 (4000000000 : Int) + (2 : Int)), IntKind.i64.wrap ((if (1125899906842624 : Int) < if (0 : Int) > a1.2.1 then (0 : Int) else a1.2.1 then (1125899906842624 : Int) else if (0 : Int) > a1.2.1 then (0 : Int) else a1.2.1) + IntKind.i64.wrap a5), a1.2.2), (IntKind.u32.wrap (Int.tmod a1.1 (4000000000 : Int) + (1 : Int)), IntKind.i64.wrap ((if (1125899906842624 : Int) < if (0 : Int) > a1.2.1 then (0 : Int) else a1.2.1 then (1125899906842624 : Int) else if (0 : Int) > a1.2.1 then (0 : Int) else a1.2.1) + IntKind.i64.wrap a5), a1.2.2)]), (nat_lit 89, ABlk.arr (nat_lit 29) T29 [(IntKind.u32.wrap (IntKind.u32.wrap (Int.tmod a1.1 (4000000000 : Int) + (2 : Int)) + (1 : Int)), IntKind.i64.wrap (IntKind.i64.wrap ((if (1125899906842624 : Int) < if (0 : Int) > a1.2.1 then (0 : Int) else a1.2.1 then (1125899906842624 : Int) else if (0 : Int) > a1.2.1 then (0 : Int) else a1.2.1) + IntKind.i64.wrap a5) + (1 : Int)), a1.2.2), (IntKind.u32.wrap (Int.tmod a1.1 (4000000000 : Int) + (1 : Int)), IntKind.i64.wrap ((if (1125899906842624 : Int) < if (0 : Int) > a1.2.1 then (0 : Int) else a1.2.1 then (1125899906842624 : Int) else if (0 : Int) > a1.2.1 then (0 : Int) else a1.2.1) + IntKind.i64.wrap a5), a1.2.2)])] }
noncomputable def b9_1 (F16 : Option (Bool)) (F17 : (El T26) → (El T29) → Int → Int → Option (Int × Int)) (F22 : (El T26) → (List (El T29)) → Int → Int → Option (Int × Int)) (K : Nat) (a0 : El T26) (a1 : El T29) (a2 : List (El T29)) (a3 : Int) (a4 : Int) (a5 : Int) (r0 : Int → Int → Option (Bool)) (r1 : Int → Int → Int → Option (Bool)) (ps22 : Int) (ps24 : Int) (ps25 : Int) : Option (Bool) :=(if decide (ps25 < (↑a2.length : Int)) = true then (if decide ((0 : Int) ≤ ps25 ∧ ps25 < (↑a2.length : Int)) = true then (if ((a2.getD ps25.toNat (zEl T29)).1 == ps22) = true then (if decide ((0 : Int) ≤ ps24 ∧ ps24 < (↑a2.length : Int)) = true then (if decide ((0 : Int) ≤ ps25 ∧ ps25 < (↑a2.length : Int)) = true then 
       (Option.bind (F22 a0 [a2.getD ps24.toNat (zEl T29), a2.getD ps25.toNat (zEl T29)] a3 a4) fun x8 => (if (x8.2 != (0 : Int)) = true then some (false)
        else (if (x8.1 != ps22) = true then some (false)
         else r1 (ps22) (ps24) (IntKind.i64.wrap (ps25 + (1 : Int))))))
      else none)
     else none)
    else r1 (ps22) (ps24) (IntKind.i64.wrap (ps25 + (1 : Int))))
   else none)
  else r0 (ps22) (IntKind.i64.wrap (ps24 + (1 : Int))))
noncomputable def L9_1 (F16 : Option (Bool)) (F17 : (El T26) → (El T29) → Int → Int → Option (Int × Int)) (F22 : (El T26) → (List (El T29)) → Int → Int → Option (Int × Int)) (K : Nat) (a0 : El T26) (a1 : El T29) (a2 : List (El T29)) (a3 : Int) (a4 : Int) (a5 : Int) (r0 : Int → Int → Option (Bool)) : Nat → Int → Int → Int → Option (Bool)
  | 0, _, _, _ => none
  | n + 1, ps22, ps24, ps25 => b9_1 F16 F17 F22 K a0 a1 a2 a3 a4 a5 r0 (L9_1 F16 F17 F22 K a0 a1 a2 a3 a4 a5 r0 n) ps22 ps24 ps25
noncomputable def b9_0 (F16 : Option (Bool)) (F17 : (El T26) → (El T29) → Int → Int → Option (Int × Int)) (F22 : (El T26) → (List (El T29)) → Int → Int → Option (Int × Int)) (K : Nat) (a0 : El T26) (a1 : El T29) (a2 : List (El T29)) (a3 : Int) (a4 : Int) (a5 : Int) (r0 : Int → Int → Option (Bool)) (l1 : Nat → Int → Int → Int → Option (Bool)) (ps22 : Int) (ps24 : Int) : Option (Bool) :=(if decide (ps24 < (↑a2.length : Int)) = true then (if decide ((0 : Int) ≤ ps24 ∧ ps24 < (↑a2.length : Int)) = true then (if ((a2.getD ps24.toNat (zEl T29)).1 == ps22) = true then r0 (ps22) (IntKind.i64.wrap (ps24 + (1 : Int)))
    else l1 K (ps22) (ps24) ((0 : Int)))
   else none)
  else 
   (Option.bind (F16) fun x7 => some (x7)))
noncomputable def L9_0 (F16 : Option (Bool)) (F17 : (El T26) → (El T29) → Int → Int → Option (Int × Int)) (F22 : (El T26) → (List (El T29)) → Int → Int → Option (Int × Int)) (K : Nat) (a0 : El T26) (a1 : El T29) (a2 : List (El T29)) (a3 : Int) (a4 : Int) (a5 : Int) : Nat → Int → Int → Option (Bool)
  | 0, _, _ => none
  | n + 1, ps22, ps24 => b9_0 F16 F17 F22 K a0 a1 a2 a3 a4 a5 (L9_0 F16 F17 F22 K a0 a1 a2 a3 a4 a5 n) (L9_1 F16 F17 F22 K a0 a1 a2 a3 a4 a5 (L9_0 F16 F17 F22 K a0 a1 a2 a3 a4 a5 n)) ps22 ps24
noncomputable def t9 (F16 : Option (Bool)) (F17 : (El T26) → (El T29) → Int → Int → Option (Int × Int)) (F22 : (El T26) → (List (El T29)) → Int → Int → Option (Int × Int)) (K : Nat) (a0 : El T26) (a1 : El T29) (a2 : List (El T29)) (a3 : Int) (a4 : Int) (a5 : Int) (l0 : Nat → Int → Int → Option (Bool)) : Option (Bool) := (if decide ((↑a2.length : Int) > (100 : Int)) = true then 
  (Option.bind (F16) fun x0 => some (x0))
 else 
  (Option.bind (F17 a0 (IntKind.u32.wrap (Int.tmod a1.1 (4000000000 : Int) + (1 : Int)), IntKind.i64.wrap ((if (1125899906842624 : Int) < if (0 : Int) > a1.2.1 then (0 : Int) else a1.2.1 then (1125899906842624 : Int) else if (0 : Int) > a1.2.1 then (0 : Int) else a1.2.1) + IntKind.i64.wrap a5), a1.2.2) a3 a4) fun x1 => (if (x1.2 != (0 : Int)) = true then 
    (Option.bind (F16) fun x2 => some (x2))
   else 
    (Option.bind (F22 a0 [(IntKind.u32.wrap (Int.tmod a1.1 (4000000000 : Int) + (2 : Int)), IntKind.i64.wrap ((if (1125899906842624 : Int) < if (0 : Int) > a1.2.1 then (0 : Int) else a1.2.1 then (1125899906842624 : Int) else if (0 : Int) > a1.2.1 then (0 : Int) else a1.2.1) + IntKind.i64.wrap a5), a1.2.2), (IntKind.u32.wrap (Int.tmod a1.1 (4000000000 : Int) + (1 : Int)), IntKind.i64.wrap ((if (1125899906842624 : Int) < if (0 : Int) > a1.2.1 then (0 : Int) else a1.2.1 then (1125899906842624 : Int) else if (0 : Int) > a1.2.1 then (0 : Int) else a1.2.1) + IntKind.i64.wrap a5), a1.2.2)] a3 a4) fun x3 => 
     (Option.bind (F22 a0 [(IntKind.u32.wrap (IntKind.u32.wrap (Int.tmod a1.1 (4000000000 : Int) + (2 : Int)) + (1 : Int)), IntKind.i64.wrap (IntKind.i64.wrap ((if (1125899906842624 : Int) < if (0 : Int) > a1.2.1 then (0 : Int) else a1.2.1 then (1125899906842624 : Int) else if (0 : Int) > a1.2.1 then (0 : Int) else a1.2.1) + IntKind.i64.wrap a5) + (1 : Int)), a1.2.2), (IntKind.u32.wrap (Int.tmod a1.1 (4000000000 : Int) + (1 : Int)), IntKind.i64.wrap ((if (1125899906842624 : Int) < if (0 : Int) > a1.2.1 then (0 : Int) else a1.2.1 then (1125899906842624 : Int) else if (0 : Int) > a1.2.1 then (0 : Int) else a1.2.1) + IntKind.i64.wrap a5), a1.2.2)] a3 a4) fun x4 => (if (x3.2 != (0 : Int)) = true then some (false)
      else (if (x3.1 != IntKind.u32.wrap (Int.tmod a1.1 (4000000000 : Int) + (1 : Int))) = true then some (false)
       else (if (x4.2 != (0 : Int)) = true then some (false)
        else (if (x4.1 != IntKind.u32.wrap (Int.tmod a1.1 (4000000000 : Int) + (1 : Int))) = true then some (false)
         else 
          (Option.bind (F22 a0 a2 a3 a4) fun x5 => (if (x5.2 != (0 : Int)) = true then 
            (Option.bind (F16) fun x6 => some (x6))
           else l0 K (x5.1) ((0 : Int)))))))))))))
noncomputable def G9 (F16 : Option (Bool)) (F17 : (El T26) → (El T29) → Int → Int → Option (Int × Int)) (F22 : (El T26) → (List (El T29)) → Int → Int → Option (Int × Int)) (K : Nat) (a0 : El T26) (a1 : El T29) (a2 : List (El T29)) (a3 : Int) (a4 : Int) (a5 : Int) : Option (Bool) := t9 F16 F17 F22 K a0 a1 a2 a3 a4 a5 (L9_0 F16 F17 F22 K a0 a1 a2 a3 a4 a5)
theorem lp9_1 (F16 : Option (Bool)) (F17 : (El T26) → (El T29) → Int → Int → Option (Int × Int)) (F22 : (El T26) → (List (El T29)) → Int → Int → Option (Int × Int)) (K : Nat) (a0 : El T26) (a1 : El T29) (a2 : List (El T29)) (a3 : Int) (a4 : Int) (a5 : Int) : ∀ (m0 : Nat) (n : Nat) (ps22 : Int) (ps24 : Int) (ps25 : Int), loopN Try.prog (tab9 F16 F17 F22) 0 K Try.f9 la9 dq9.k 1 [m0] n (hd9_1 a0 a1 a2 a3 a4 a5 ps22 ps24 ps25) = L9_1 F16 F17 F22 K a0 a1 a2 a3 a4 a5 (fun q0 q1 => loopN Try.prog (tab9 F16 F17 F22) 0 K Try.f9 la9 dq9.k 0 [] m0 (hd9_0 a0 a1 a2 a3 a4 a5 q0 q1)) n ps22 ps24 ps25
  | m0, 0, _, _, _ => by kernel_rfl
  | m0, n + 1, ps22, ps24, ps25 => by
    have h : loopN Try.prog (tab9 F16 F17 F22) 0 K Try.f9 la9 dq9.k 1 [m0] (n + 1) (hd9_1 a0 a1 a2 a3 a4 a5 ps22 ps24 ps25) = b9_1 F16 F17 F22 K a0 a1 a2 a3 a4 a5 (fun q0 q1 => loopN Try.prog (tab9 F16 F17 F22) 0 K Try.f9 la9 dq9.k 0 [] m0 (hd9_0 a0 a1 a2 a3 a4 a5 q0 q1)) (fun q0 q1 q2 => loopN Try.prog (tab9 F16 F17 F22) 0 K Try.f9 la9 dq9.k 1 [m0] n (hd9_1 a0 a1 a2 a3 a4 a5 q0 q1 q2)) ps22 ps24 ps25 := by kernel_rfl
    rw [h]
    simp only [lp9_1 F16 F17 F22 K a0 a1 a2 a3 a4 a5 m0 n]
    rfl
theorem lp9_0 (F16 : Option (Bool)) (F17 : (El T26) → (El T29) → Int → Int → Option (Int × Int)) (F22 : (El T26) → (List (El T29)) → Int → Int → Option (Int × Int)) (K : Nat) (a0 : El T26) (a1 : El T29) (a2 : List (El T29)) (a3 : Int) (a4 : Int) (a5 : Int) : ∀ (n : Nat) (ps22 : Int) (ps24 : Int), loopN Try.prog (tab9 F16 F17 F22) 0 K Try.f9 la9 dq9.k 0 [] n (hd9_0 a0 a1 a2 a3 a4 a5 ps22 ps24) = L9_0 F16 F17 F22 K a0 a1 a2 a3 a4 a5 n ps22 ps24
  | 0, _, _ => by kernel_rfl
  | n + 1, ps22, ps24 => by
    have h : loopN Try.prog (tab9 F16 F17 F22) 0 K Try.f9 la9 dq9.k 0 [] (n + 1) (hd9_0 a0 a1 a2 a3 a4 a5 ps22 ps24) = b9_0 F16 F17 F22 K a0 a1 a2 a3 a4 a5 (fun q0 q1 => loopN Try.prog (tab9 F16 F17 F22) 0 K Try.f9 la9 dq9.k 0 [] n (hd9_0 a0 a1 a2 a3 a4 a5 q0 q1)) (fun k q0 q1 q2 => loopN Try.prog (tab9 F16 F17 F22) 0 K Try.f9 la9 dq9.k 1 [n] k (hd9_1 a0 a1 a2 a3 a4 a5 q0 q1 q2)) ps22 ps24 := by kernel_rfl
    rw [h]
    simp only [lp9_0 F16 F17 F22 K a0 a1 a2 a3 a4 a5 n, lp9_1 F16 F17 F22 K a0 a1 a2 a3 a4 a5 n]
    rfl
theorem ev9 (F16 : Option (Bool)) (F17 : (El T26) → (El T29) → Int → Int → Option (Int × Int)) (F22 : (El T26) → (List (El T29)) → Int → Int → Option (Int × Int)) (K : Nat) (a0 : El T26) (a1 : El T29) (a2 : List (El T29)) (a3 : Int) (a4 : Int) (a5 : Int) : evFun Try.prog (tab9 F16 F17 F22) 0 K Try.f9 la9 [.agg (cellsOf T26 a0), .agg (cellsOf T29 a1), .row T29 a2, I .i64 a3, I .i64 a4, I .u16 a5] [] dq9.k = G9 F16 F17 F22 K a0 a1 a2 a3 a4 a5 := by
  have h : evFun Try.prog (tab9 F16 F17 F22) 0 K Try.f9 la9 [.agg (cellsOf T26 a0), .agg (cellsOf T29 a1), .row T29 a2, I .i64 a3, I .i64 a4, I .u16 a5] [] dq9.k = t9 F16 F17 F22 K a0 a1 a2 a3 a4 a5 (fun k q0 q1 => loopN Try.prog (tab9 F16 F17 F22) 0 K Try.f9 la9 dq9.k 0 [] k (hd9_0 a0 a1 a2 a3 a4 a5 q0 q1)) := by kernel_rfl
  rw [h]
  simp only [lp9_0 F16 F17 F22 K a0 a1 a2 a3 a4 a5]
  rfl
noncomputable def F9 (K : Nat) (a0 : El T26) (a1 : El T29) (a2 : List (El T29)) (a3 : Int) (a4 : Int) (a5 : Int) : Option (Bool) := G9 (F16 K) (F17 K) (F22 K) K a0 a1 a2 a3 a4 a5
theorem cok9 (K : Nat) : CallOK False Try.prog (tab9 (F16 K) (F17 K) (F22 K)) := (add_ok (add_ok (add_ok none_ok ent16 (ok16 K)) ent17 (ok17 K)) ent22 (ok22 K))
theorem ok9 (K : Nat) : RowOK False Try.prog 9 (row ad9 dq9 fun p => F9 K p.1 p.2.1 p.2.2.1 p.2.2.2.1 p.2.2.2.2.1 p.2.2.2.2.2) := row_ok fun x r h => has_of (cok9 K) Try.func9 ((ev9 (F16 K) (F17 K) (F22 K) K x.1 x.2.1 x.2.2.1 x.2.2.2.1 x.2.2.2.2.1 x.2.2.2.2.2).trans h)
end Go.Proofs.YtgkmfhmodojdcaaE
