import Derived.Test.YthebmlpohkfhbaaS14F2
set_option linter.all false
namespace Go.Proofs.YthebmlpohkfhbaaE
open Go Go.Proofs
set_option maxRecDepth 100000
set_option linter.unusedVariables false
/-! ganger/gangerref14.Room -/
noncomputable def tab27 (F35 : (List (El T45)) → Int → Option (Bool)) : Tab := (Tab.none.add 35 (row ad35 dq35 fun p => F35 p.1 p.2))
noncomputable def la27 : List (List Tidy) := [[.only [0, 5, 6, 7], .ids [5, 10], .top [1000000]]]
noncomputable def hd27_0 (a0 : List (El T45)) (a1 : Int) (ps6 : Int) (ps7 : Int) : St := { tm := slots (nat_lit 67) [(nat_lit 0, AV.row T45 a0), (nat_lit 5, AV.ptr (nat_lit 5) (nat_lit 0)), (nat_lit 6, AV.sc (Value.int IntKind.i64 ps6)), (nat_lit 7, AV.sc (Value.int IntKind.i64 ps7))], H := [(nat_lit 5, ABlk.box (nat_lit 45) (cellsOf T45 (a0.getD (IntKind.u32.wrap (a1 - (1 : Int))).toNat (zEl T45))))] }
noncomputable def b27_0 (F35 : (List (El T45)) → Int → Option (Bool)) (K : Nat) (a0 : List (El T45)) (a1 : Int) (r0 : Int → Int → Option (Bool)) (ps6 : Int) (ps7 : Int) : Option (Bool) :=(if decide (ps7 < (↑a0.length : Int)) = true then (if decide ((0 : Int) ≤ ps7 ∧ ps7 < (↑a0.length : Int)) = true then (if ((a0.getD ps7.toNat (zEl T45)).2.1 == (a0.getD (IntKind.u32.wrap (a1 - (1 : Int))).toNat (zEl T45)).2.1) = true then (if decide ((0 : Int) ≤ ps7 ∧ ps7 < (↑a0.length : Int)) = true then (if ((a0.getD ps7.toNat (zEl T45)).2.2.2.2.2.1 == (3 : Int)) = true then r0 (IntKind.i64.wrap (ps6 + (1 : Int))) (IntKind.i64.wrap (ps7 + (1 : Int)))
      else (if decide ((0 : Int) ≤ ps7 ∧ ps7 < (↑a0.length : Int)) = true then (if ((a0.getD ps7.toNat (zEl T45)).2.2.2.2.2.1 == (4 : Int)) = true then r0 (IntKind.i64.wrap (ps6 + (1 : Int))) (IntKind.i64.wrap (ps7 + (1 : Int)))
        else r0 (ps6) (IntKind.i64.wrap (ps7 + (1 : Int))))
       else none))
     else none)
    else r0 (ps6) (IntKind.i64.wrap (ps7 + (1 : Int))))
   else none)
  else (if ((a0.getD (IntKind.u32.wrap (a1 - (1 : Int))).toNat (zEl T45)).2.1 == (0 : Int)) = true then some (true)
   else (if ((a0.getD (IntKind.u32.wrap (a1 - (1 : Int))).toNat (zEl T45)).2.2.2.1.2.2.2.2.2.2.1.2 == (0 : Int)) = true then some (true)
    else some (decide (ps6 < (a0.getD (IntKind.u32.wrap (a1 - (1 : Int))).toNat (zEl T45)).2.2.2.1.2.2.2.2.2.2.1.2)))))
noncomputable def L27_0 (F35 : (List (El T45)) → Int → Option (Bool)) (K : Nat) (a0 : List (El T45)) (a1 : Int) : Nat → Int → Int → Option (Bool)
  | 0, _, _ => none
  | n + 1, ps6, ps7 => b27_0 F35 K a0 a1 (L27_0 F35 K a0 a1 n) ps6 ps7
noncomputable def t27 (F35 : (List (El T45)) → Int → Option (Bool)) (K : Nat) (a0 : List (El T45)) (a1 : Int) (l0 : Nat → Int → Int → Option (Bool)) : Option (Bool) := 
 (Option.bind (F35 a0 a1) fun x0 => (if (!x0) = true then some (false)
  else (if decide ((0 : Int) ≤ IntKind.u32.wrap (a1 - (1 : Int)) ∧ IntKind.u32.wrap (a1 - (1 : Int)) < (↑a0.length : Int)) = true then l0 K ((0 : Int)) ((0 : Int))
   else none)))
noncomputable def G27 (F35 : (List (El T45)) → Int → Option (Bool)) (K : Nat) (a0 : List (El T45)) (a1 : Int) : Option (Bool) := t27 F35 K a0 a1 (L27_0 F35 K a0 a1)
theorem lp27_0 (F35 : (List (El T45)) → Int → Option (Bool)) (K : Nat) (a0 : List (El T45)) (a1 : Int) : ∀ (n : Nat) (ps6 : Int) (ps7 : Int), loopN Try.prog (tab27 F35) 0 K Try.f27 la27 dq27.k 0 [] n (hd27_0 a0 a1 ps6 ps7) = L27_0 F35 K a0 a1 n ps6 ps7
  | 0, _, _ => by kernel_rfl
  | n + 1, ps6, ps7 => by
    have h : loopN Try.prog (tab27 F35) 0 K Try.f27 la27 dq27.k 0 [] (n + 1) (hd27_0 a0 a1 ps6 ps7) = b27_0 F35 K a0 a1 (fun q0 q1 => loopN Try.prog (tab27 F35) 0 K Try.f27 la27 dq27.k 0 [] n (hd27_0 a0 a1 q0 q1)) ps6 ps7 := by kernel_rfl
    rw [h]
    simp only [lp27_0 F35 K a0 a1 n]
    rfl
theorem ev27 (F35 : (List (El T45)) → Int → Option (Bool)) (K : Nat) (a0 : List (El T45)) (a1 : Int) : evFun Try.prog (tab27 F35) 0 K Try.f27 la27 [.row T45 a0, I .u32 a1] [] dq27.k = G27 F35 K a0 a1 := by
  have h : evFun Try.prog (tab27 F35) 0 K Try.f27 la27 [.row T45 a0, I .u32 a1] [] dq27.k = t27 F35 K a0 a1 (fun k q0 q1 => loopN Try.prog (tab27 F35) 0 K Try.f27 la27 dq27.k 0 [] k (hd27_0 a0 a1 q0 q1)) := by kernel_rfl
  rw [h]
  simp only [lp27_0 F35 K a0 a1]
  rfl
noncomputable def F27 (K : Nat) (a0 : List (El T45)) (a1 : Int) : Option (Bool) := G27 (F35 K) K a0 a1
theorem cok27 (K : Nat) : CallOK Try.prog (tab27 (F35 K)) := (add_ok none_ok ent35 (ok35 K))
theorem ok27 (K : Nat) : RowOK Try.prog 27 (row ad27 dq27 fun p => F27 K p.1 p.2) := row_ok fun x r h => has_of (cok27 K) Try.func27 ((ev27 (F35 K) K x.1 x.2).trans h)
/-! ganger/gangerref08.How -/
noncomputable def tab42 : Tab := Tab.none
noncomputable def la42 : List (List Tidy) := [[.only [0, 1, 5], .ids [], .top [1000000]]]
noncomputable def hd42_0 (a0 : List (El T70)) (a1 : Int) (ps5 : Int) : St := { tm := slots (nat_lit 38) [(nat_lit 0, AV.row T70 a0), (nat_lit 1, AV.sc (Value.int IntKind.u32 a1)), (nat_lit 5, AV.sc (Value.int IntKind.i64 ps5))], H := [] }
noncomputable def b42_0 (K : Nat) (a0 : List (El T70)) (a1 : Int) (r0 : Int → Option (Int)) (ps5 : Int) : Option (Int) :=(if decide (ps5 < (↑a0.length : Int)) = true then (if decide ((0 : Int) ≤ ps5 ∧ ps5 < (↑a0.length : Int)) = true then (if ((a0.getD ps5.toNat (zEl T70)).1 == a1) = true then (if decide ((0 : Int) ≤ ps5 ∧ ps5 < (↑a0.length : Int)) = true then (if decide ((a0.getD ps5.toNat (zEl T70)).2 ≥ (1 : Int)) = true then (if decide ((0 : Int) ≤ ps5 ∧ ps5 < (↑a0.length : Int)) = true then (if decide ((a0.getD ps5.toNat (zEl T70)).2 ≤ (4 : Int)) = true then (if decide ((0 : Int) ≤ ps5 ∧ ps5 < (↑a0.length : Int)) = true then some ((a0.getD ps5.toNat (zEl T70)).2)
         else none)
        else some ((0 : Int)))
       else none)
      else some ((0 : Int)))
     else none)
    else r0 (IntKind.i64.wrap (ps5 + (1 : Int))))
   else none)
  else some ((0 : Int)))
noncomputable def L42_0 (K : Nat) (a0 : List (El T70)) (a1 : Int) : Nat → Int → Option (Int)
  | 0, _ => none
  | n + 1, ps5 => b42_0 K a0 a1 (L42_0 K a0 a1 n) ps5
noncomputable def t42 (K : Nat) (a0 : List (El T70)) (a1 : Int) (l0 : Nat → Int → Option (Int)) : Option (Int) := l0 K ((0 : Int))
noncomputable def G42 (K : Nat) (a0 : List (El T70)) (a1 : Int) : Option (Int) := t42 K a0 a1 (L42_0 K a0 a1)
theorem lp42_0 (K : Nat) (a0 : List (El T70)) (a1 : Int) : ∀ (n : Nat) (ps5 : Int), loopN Try.prog (tab42) 0 K Try.f42 la42 dq42.k 0 [] n (hd42_0 a0 a1 ps5) = L42_0 K a0 a1 n ps5
  | 0, _ => by kernel_rfl
  | n + 1, ps5 => by
    have h : loopN Try.prog (tab42) 0 K Try.f42 la42 dq42.k 0 [] (n + 1) (hd42_0 a0 a1 ps5) = b42_0 K a0 a1 (fun q0 => loopN Try.prog (tab42) 0 K Try.f42 la42 dq42.k 0 [] n (hd42_0 a0 a1 q0)) ps5 := by kernel_rfl
    rw [h]
    simp only [lp42_0 K a0 a1 n]
    rfl
theorem ev42 (K : Nat) (a0 : List (El T70)) (a1 : Int) : evFun Try.prog (tab42) 0 K Try.f42 la42 [.row T70 a0, I .u32 a1] [] dq42.k = G42 K a0 a1 := by
  have h : evFun Try.prog (tab42) 0 K Try.f42 la42 [.row T70 a0, I .u32 a1] [] dq42.k = t42 K a0 a1 (fun k q0 => loopN Try.prog (tab42) 0 K Try.f42 la42 dq42.k 0 [] k (hd42_0 a0 a1 q0)) := by kernel_rfl
  rw [h]
  simp only [lp42_0 K a0 a1]
  rfl
noncomputable def F42 (K : Nat) (a0 : List (El T70)) (a1 : Int) : Option (Int) := G42 K a0 a1
theorem cok42 (K : Nat) : CallOK Try.prog (tab42) := none_ok
theorem ok42 (K : Nat) : RowOK Try.prog 42 (row ad42 dq42 fun p => F42 K p.1 p.2) := row_ok fun x r h => has_of (cok42 K) Try.func42 ((ev42 K x.1 x.2).trans h)
/-! ganger/gangerref08.of -/
noncomputable def tab41 : Tab := Tab.none
noncomputable def t41 (K : Nat) (a0 : Int) (a1 : Int) : Option (Int) := (if a1 = (↑(0 : Nat) : Int) then (if a0 = (↑(0 : Nat) : Int) then some ((0 : Int))
  else (if a0 = (↑((0 : Nat) + (1 : Nat)) : Int) then some ((3 : Int))
   else (if a0 = (↑((0 : Nat) + (1 : Nat) + (1 : Nat)) : Int) then some ((3 : Int))
    else (if a0 = (↑((0 : Nat) + (1 : Nat) + (1 : Nat) + (1 : Nat)) : Int) then some ((3 : Int))
     else (if a0 = (↑((0 : Nat) + (1 : Nat) + (1 : Nat) + (1 : Nat) + (1 : Nat)) : Int) then some ((3 : Int))
      else none)))))
 else (if a1 = (↑((0 : Nat) + (1 : Nat)) : Int) then (if a0 = (↑(0 : Nat) : Int) then some ((0 : Int))
   else (if a0 = (↑((0 : Nat) + (1 : Nat)) : Int) then some ((1 : Int))
    else (if a0 = (↑((0 : Nat) + (1 : Nat) + (1 : Nat)) : Int) then some ((1 : Int))
     else (if a0 = (↑((0 : Nat) + (1 : Nat) + (1 : Nat) + (1 : Nat)) : Int) then some ((1 : Int))
      else (if a0 = (↑((0 : Nat) + (1 : Nat) + (1 : Nat) + (1 : Nat) + (1 : Nat)) : Int) then some ((1 : Int))
       else none)))))
  else (if a1 = (↑((0 : Nat) + (1 : Nat) + (1 : Nat)) : Int) then (if a0 = (↑(0 : Nat) : Int) then some ((0 : Int))
    else (if a0 = (↑((0 : Nat) + (1 : Nat)) : Int) then some ((2 : Int))
     else (if a0 = (↑((0 : Nat) + (1 : Nat) + (1 : Nat)) : Int) then some ((1 : Int))
      else (if a0 = (↑((0 : Nat) + (1 : Nat) + (1 : Nat) + (1 : Nat)) : Int) then some ((1 : Int))
       else (if a0 = (↑((0 : Nat) + (1 : Nat) + (1 : Nat) + (1 : Nat) + (1 : Nat)) : Int) then some ((1 : Int))
        else none)))))
   else (if a1 = (↑((0 : Nat) + (1 : Nat) + (1 : Nat) + (1 : Nat)) : Int) then (if a0 = (↑(0 : Nat) : Int) then some ((0 : Int))
     else (if a0 = (↑((0 : Nat) + (1 : Nat)) : Int) then some ((2 : Int))
      else (if a0 = (↑((0 : Nat) + (1 : Nat) + (1 : Nat)) : Int) then some ((2 : Int))
       else (if a0 = (↑((0 : Nat) + (1 : Nat) + (1 : Nat) + (1 : Nat)) : Int) then some ((3 : Int))
        else (if a0 = (↑((0 : Nat) + (1 : Nat) + (1 : Nat) + (1 : Nat) + (1 : Nat)) : Int) then some ((2 : Int))
         else none)))))
    else (if a1 = (↑((0 : Nat) + (1 : Nat) + (1 : Nat) + (1 : Nat) + (1 : Nat)) : Int) then (if a0 = (↑(0 : Nat) : Int) then some ((0 : Int))
      else (if a0 = (↑((0 : Nat) + (1 : Nat)) : Int) then some ((2 : Int))
       else (if a0 = (↑((0 : Nat) + (1 : Nat) + (1 : Nat)) : Int) then some ((3 : Int))
        else (if a0 = (↑((0 : Nat) + (1 : Nat) + (1 : Nat) + (1 : Nat)) : Int) then some ((2 : Int))
         else (if a0 = (↑((0 : Nat) + (1 : Nat) + (1 : Nat) + (1 : Nat) + (1 : Nat)) : Int) then some ((2 : Int))
          else none)))))
     else none)))))
noncomputable def G41 (K : Nat) (a0 : Int) (a1 : Int) : Option (Int) := t41 K a0 a1
theorem ev41 (K : Nat) (a0 : Int) (a1 : Int) : evFun Try.prog (tab41) 0 K Try.f41 [] [I .i64 a0, I .i64 a1] [] dq41.k = G41 K a0 a1 := by
  kernel_rfl
noncomputable def F41 (K : Nat) (a0 : Int) (a1 : Int) : Option (Int) := G41 K a0 a1
theorem cok41 (K : Nat) : CallOK Try.prog (tab41) := none_ok
theorem ok41 (K : Nat) : RowOK Try.prog 41 (row ad41 dq41 fun p => F41 K p.1 p.2) := row_ok fun x r h => has_of (cok41 K) Try.func41 ((ev41 K x.1 x.2).trans h)
/-! ganger/gangerref14.Alone -/
noncomputable def tab25 (F35 : (List (El T45)) → Int → Option (Bool)) : Tab := (Tab.none.add 35 (row ad35 dq35 fun p => F35 p.1 p.2))
noncomputable def la25 : List (List Tidy) := [[.only [0, 1, 5, 6], .ids [5, 11], .top [1000000]]]
noncomputable def hd25_0 (a0 : List (El T45)) (a1 : Int) (ps6 : Int) : St := { tm := slots (nat_lit 72) [(nat_lit 0, AV.row T45 a0), (nat_lit 1, AV.sc (Value.int IntKind.u32 a1)), (nat_lit 5, AV.ptr (nat_lit 5) (nat_lit 0)), (nat_lit 6, AV.sc (Value.int IntKind.i64 ps6))], H := [(nat_lit 5, ABlk.box (nat_lit 45) (cellsOf T45 (a0.getD (IntKind.u32.wrap (a1 - (1 : Int))).toNat (zEl T45))))] }
noncomputable def b25_0 (F35 : (List (El T45)) → Int → Option (Bool)) (K : Nat) (a0 : List (El T45)) (a1 : Int) (r0 : Int → Option (Bool)) (ps6 : Int) : Option (Bool) :=(if decide (ps6 < (↑a0.length : Int)) = true then (if decide ((0 : Int) ≤ ps6 ∧ ps6 < (↑a0.length : Int)) = true then (if (ByteArray.toList (a0.getD ps6.toNat (zEl T45)).2.2.2.1.1 == ByteArray.toList (a0.getD (IntKind.u32.wrap (a1 - (1 : Int))).toNat (zEl T45)).2.2.2.1.1) = true then (if (ByteArray.toList (a0.getD ps6.toNat (zEl T45)).2.2.2.1.2.1 == ByteArray.toList (a0.getD (IntKind.u32.wrap (a1 - (1 : Int))).toNat (zEl T45)).2.2.2.1.2.1) = true then (if ((a0.getD ps6.toNat (zEl T45)).1 != a1) = true then (if ((a0.getD ps6.toNat (zEl T45)).2.2.2.2.2.1 == (3 : Int)) = true then some (false)
       else (if ((a0.getD ps6.toNat (zEl T45)).2.2.2.2.2.1 == (4 : Int)) = true then some (false)
        else (if decide ((a0.getD ps6.toNat (zEl T45)).2.2.2.2.2.1 < (3 : Int)) = true then (if decide ((a0.getD ps6.toNat (zEl T45)).1 < a1) = true then some (false)
          else r0 (IntKind.i64.wrap (ps6 + (1 : Int))))
         else r0 (IntKind.i64.wrap (ps6 + (1 : Int))))))
      else r0 (IntKind.i64.wrap (ps6 + (1 : Int))))
     else r0 (IntKind.i64.wrap (ps6 + (1 : Int))))
    else r0 (IntKind.i64.wrap (ps6 + (1 : Int))))
   else none)
  else some (true))
noncomputable def L25_0 (F35 : (List (El T45)) → Int → Option (Bool)) (K : Nat) (a0 : List (El T45)) (a1 : Int) : Nat → Int → Option (Bool)
  | 0, _ => none
  | n + 1, ps6 => b25_0 F35 K a0 a1 (L25_0 F35 K a0 a1 n) ps6
noncomputable def t25 (F35 : (List (El T45)) → Int → Option (Bool)) (K : Nat) (a0 : List (El T45)) (a1 : Int) (l0 : Nat → Int → Option (Bool)) : Option (Bool) := 
 (Option.bind (F35 a0 a1) fun x0 => (if (!x0) = true then some (false)
  else (if decide ((0 : Int) ≤ IntKind.u32.wrap (a1 - (1 : Int)) ∧ IntKind.u32.wrap (a1 - (1 : Int)) < (↑a0.length : Int)) = true then l0 K ((0 : Int))
   else none)))
noncomputable def G25 (F35 : (List (El T45)) → Int → Option (Bool)) (K : Nat) (a0 : List (El T45)) (a1 : Int) : Option (Bool) := t25 F35 K a0 a1 (L25_0 F35 K a0 a1)
theorem lp25_0 (F35 : (List (El T45)) → Int → Option (Bool)) (K : Nat) (a0 : List (El T45)) (a1 : Int) : ∀ (n : Nat) (ps6 : Int), loopN Try.prog (tab25 F35) 0 K Try.f25 la25 dq25.k 0 [] n (hd25_0 a0 a1 ps6) = L25_0 F35 K a0 a1 n ps6
  | 0, _ => by kernel_rfl
  | n + 1, ps6 => by
    have h : loopN Try.prog (tab25 F35) 0 K Try.f25 la25 dq25.k 0 [] (n + 1) (hd25_0 a0 a1 ps6) = b25_0 F35 K a0 a1 (fun q0 => loopN Try.prog (tab25 F35) 0 K Try.f25 la25 dq25.k 0 [] n (hd25_0 a0 a1 q0)) ps6 := by kernel_rfl
    rw [h]
    simp only [lp25_0 F35 K a0 a1 n]
    rfl
theorem ev25 (F35 : (List (El T45)) → Int → Option (Bool)) (K : Nat) (a0 : List (El T45)) (a1 : Int) : evFun Try.prog (tab25 F35) 0 K Try.f25 la25 [.row T45 a0, I .u32 a1] [] dq25.k = G25 F35 K a0 a1 := by
  have h : evFun Try.prog (tab25 F35) 0 K Try.f25 la25 [.row T45 a0, I .u32 a1] [] dq25.k = t25 F35 K a0 a1 (fun k q0 => loopN Try.prog (tab25 F35) 0 K Try.f25 la25 dq25.k 0 [] k (hd25_0 a0 a1 q0)) := by kernel_rfl
  rw [h]
  simp only [lp25_0 F35 K a0 a1]
  rfl
noncomputable def F25 (K : Nat) (a0 : List (El T45)) (a1 : Int) : Option (Bool) := G25 (F35 K) K a0 a1
theorem cok25 (K : Nat) : CallOK Try.prog (tab25 (F35 K)) := (add_ok none_ok ent35 (ok35 K))
theorem ok25 (K : Nat) : RowOK Try.prog 25 (row ad25 dq25 fun p => F25 K p.1 p.2) := row_ok fun x r h => has_of (cok25 K) Try.func25 ((ev25 (F35 K) K x.1 x.2).trans h)
/-! ganger/waits.alone$1 -/
noncomputable def tab40 (F22 : (El T45) → Option (Int)) : Tab := (Tab.none.add 22 (row ad22 dq22 fun p => F22 p))
noncomputable def t40 (F22 : (El T45) → Option (Int)) (K : Nat) (a0 : El T45) (a1 : El TF45) : Option (Bool) := (if (a0.1 == a1.1) = true then some (false)
 else (if (!ByteArray.toList a0.2.2.2.1.1 == ByteArray.toList a1.2.2.2.1) = true then some (false)
  else (if (!ByteArray.toList a0.2.2.2.1.2.1 == ByteArray.toList a1.2.2.2.2.1) = true then some (false)
   else 
    (Option.bind (F22 a0) fun x0 => (if (x0 == (2 : Int)) = true then some (true)
     else (if (x0 == (1 : Int)) = true then some (decide (a0.1 < a1.1))
      else some (false)))))))
noncomputable def G40 (F22 : (El T45) → Option (Int)) (K : Nat) (a0 : El T45) (a1 : El TF45) : Option (Bool) := t40 F22 K a0 a1
theorem ev40 (F22 : (El T45) → Option (Int)) (K : Nat) (a0 : El T45) (a1 : El TF45) : evFun Try.prog (tab40 F22) 0 K Try.f40 [] [.agg (cellsOf T45 a0), .eptr TF45 a1 0] [] dq40.k = G40 F22 K a0 a1 := by
  kernel_rfl
noncomputable def F40 (K : Nat) (a0 : El T45) (a1 : El TF45) : Option (Bool) := G40 (F22 K) K a0 a1
theorem cok40 (K : Nat) : CallOK Try.prog (tab40 (F22 K)) := (add_ok none_ok ent22 (ok22 K))
theorem ok40 (K : Nat) : RowOK Try.prog 40 (row ad40 dq40 fun p => F40 K p.1 p.2) := row_ok fun x r h => has_of (cok40 K) Try.func40 ((ev40 (F22 K) K x.1 x.2).trans h)
/-! slices.IndexFunc[[]ganger/api.Job,ganger/api.Job] -/
noncomputable def tab48 (F40 : (El T45) → (El TF45) → Option (Bool)) : Tab := (Tab.none.add 40 (row ad40 dq40 fun p => F40 p.1 p.2))
noncomputable def la48 : List (List Tidy) := [[.only [0, 1, 7, 8], .ids [7], .top [1000000]]]
noncomputable def hd48_0 (a0 : List (El T45)) (a1 : El TF45) (ps8 : Int) : St := { tm := slots (nat_lit 19) [(nat_lit 0, AV.row T45 a0), (nat_lit 1, AV.fn (nat_lit 40) [AV.eptr TF45 a1 (nat_lit 0)]), (nat_lit 7, AV.sc (Value.int IntKind.i64 (↑a0.length : Int))), (nat_lit 8, AV.sc (Value.int IntKind.i64 ps8))], H := [] }
noncomputable def b48_0 (F40 : (El T45) → (El TF45) → Option (Bool)) (K : Nat) (a0 : List (El T45)) (a1 : El TF45) (r0 : Int → Option (Int)) (ps8 : Int) : Option (Int) :=(if decide (ps8 < (↑a0.length : Int)) = true then (if decide ((0 : Int) ≤ ps8 ∧ ps8 < (↑a0.length : Int)) = true then 
    (Option.bind (F40 (a0.getD ps8.toNat (zEl T45)) a1) fun x0 => (if x0 = true then some (ps8)
     else r0 (IntKind.i64.wrap (ps8 + (1 : Int)))))
   else none)
  else some ((-1 : Int)))
noncomputable def L48_0 (F40 : (El T45) → (El TF45) → Option (Bool)) (K : Nat) (a0 : List (El T45)) (a1 : El TF45) : Nat → Int → Option (Int)
  | 0, _ => none
  | n + 1, ps8 => b48_0 F40 K a0 a1 (L48_0 F40 K a0 a1 n) ps8
noncomputable def t48 (F40 : (El T45) → (El TF45) → Option (Bool)) (K : Nat) (a0 : List (El T45)) (a1 : El TF45) (l0 : Nat → Int → Option (Int)) : Option (Int) := l0 K ((0 : Int))
noncomputable def G48 (F40 : (El T45) → (El TF45) → Option (Bool)) (K : Nat) (a0 : List (El T45)) (a1 : El TF45) : Option (Int) := t48 F40 K a0 a1 (L48_0 F40 K a0 a1)
theorem lp48_0 (F40 : (El T45) → (El TF45) → Option (Bool)) (K : Nat) (a0 : List (El T45)) (a1 : El TF45) : ∀ (n : Nat) (ps8 : Int), loopN Try.prog (tab48 F40) 0 K Try.f48 la48 dq48.k 0 [] n (hd48_0 a0 a1 ps8) = L48_0 F40 K a0 a1 n ps8
  | 0, _ => by kernel_rfl
  | n + 1, ps8 => by
    have h : loopN Try.prog (tab48 F40) 0 K Try.f48 la48 dq48.k 0 [] (n + 1) (hd48_0 a0 a1 ps8) = b48_0 F40 K a0 a1 (fun q0 => loopN Try.prog (tab48 F40) 0 K Try.f48 la48 dq48.k 0 [] n (hd48_0 a0 a1 q0)) ps8 := by kernel_rfl
    rw [h]
    simp only [lp48_0 F40 K a0 a1 n]
    rfl
theorem ev48 (F40 : (El T45) → (El TF45) → Option (Bool)) (K : Nat) (a0 : List (El T45)) (a1 : El TF45) : evFun Try.prog (tab48 F40) 0 K Try.f48 la48 [.row T45 a0, .fn 40 [.eptr TF45 a1 0]] [] dq48.k = G48 F40 K a0 a1 := by
  have h : evFun Try.prog (tab48 F40) 0 K Try.f48 la48 [.row T45 a0, .fn 40 [.eptr TF45 a1 0]] [] dq48.k = t48 F40 K a0 a1 (fun k q0 => loopN Try.prog (tab48 F40) 0 K Try.f48 la48 dq48.k 0 [] k (hd48_0 a0 a1 q0)) := by kernel_rfl
  rw [h]
  simp only [lp48_0 F40 K a0 a1]
  rfl
noncomputable def F48 (K : Nat) (a0 : List (El T45)) (a1 : El TF45) : Option (Int) := G48 (F40 K) K a0 a1
theorem cok48 (K : Nat) : CallOK Try.prog (tab48 (F40 K)) := (add_ok none_ok ent40 (ok40 K))
theorem ok48 (K : Nat) : RowOK Try.prog 48 (row ad48 dq48 fun p => F48 K p.1 p.2) := row_ok fun x r h => has_of (cok48 K) Try.func48 ((ev48 (F40 K) K x.1 x.2).trans h)
/-! slices.ContainsFunc[[]ganger/api.Job,ganger/api.Job] -/
noncomputable def tab39 (F48 : (List (El T45)) → (El TF45) → Option (Int)) : Tab := (Tab.none.add 48 (row ad48 dq48 fun p => F48 p.1 p.2))
noncomputable def t39 (F48 : (List (El T45)) → (El TF45) → Option (Int)) (K : Nat) (a0 : List (El T45)) (a1 : El TF45) : Option (Bool) := 
 (Option.bind (F48 a0 a1) fun x0 => some (decide (x0 ≥ (0 : Int))))
noncomputable def G39 (F48 : (List (El T45)) → (El TF45) → Option (Int)) (K : Nat) (a0 : List (El T45)) (a1 : El TF45) : Option (Bool) := t39 F48 K a0 a1
theorem ev39 (F48 : (List (El T45)) → (El TF45) → Option (Int)) (K : Nat) (a0 : List (El T45)) (a1 : El TF45) : evFun Try.prog (tab39 F48) 0 K Try.f39 [] [.row T45 a0, .fn 40 [.eptr TF45 a1 0]] [] dq39.k = G39 F48 K a0 a1 := by
  kernel_rfl
noncomputable def F39 (K : Nat) (a0 : List (El T45)) (a1 : El TF45) : Option (Bool) := G39 (F48 K) K a0 a1
theorem cok39 (K : Nat) : CallOK Try.prog (tab39 (F48 K)) := (add_ok none_ok ent48 (ok48 K))
theorem ok39 (K : Nat) : RowOK Try.prog 39 (row ad39 dq39 fun p => F39 K p.1 p.2) := row_ok fun x r h => has_of (cok39 K) Try.func39 ((ev39 (F48 K) K x.1 x.2).trans h)
/-! ganger/waits.alone -/
noncomputable def tab34 (F39 : (List (El T45)) → (El TF45) → Option (Bool)) : Tab := (Tab.none.add 39 (row ad39 dq39 fun p => F39 p.1 p.2))
noncomputable def t34 (F39 : (List (El T45)) → (El TF45) → Option (Bool)) (K : Nat) (a0 : List (El T45)) (a1 : El T45) : Option (Bool) := 
 (Option.bind (F39 a0 (a1.1, a1.2.1, a1.2.2.1, a1.2.2.2.1.1, a1.2.2.2.1.2.1, a1.2.2.2.1.2.2.1, a1.2.2.2.1.2.2.2.1, a1.2.2.2.1.2.2.2.2.1, a1.2.2.2.1.2.2.2.2.2.1, a1.2.2.2.1.2.2.2.2.2.2.1.1, a1.2.2.2.1.2.2.2.2.2.2.1.2, a1.2.2.2.1.2.2.2.2.2.2.2.1.1, a1.2.2.2.1.2.2.2.2.2.2.2.1.2, a1.2.2.2.1.2.2.2.2.2.2.2.2.1, a1.2.2.2.1.2.2.2.2.2.2.2.2.2.1, a1.2.2.2.1.2.2.2.2.2.2.2.2.2.2.1, a1.2.2.2.1.2.2.2.2.2.2.2.2.2.2.2.1, a1.2.2.2.1.2.2.2.2.2.2.2.2.2.2.2.2, a1.2.2.2.2)) fun x0 => some (!x0))
noncomputable def G34 (F39 : (List (El T45)) → (El TF45) → Option (Bool)) (K : Nat) (a0 : List (El T45)) (a1 : El T45) : Option (Bool) := t34 F39 K a0 a1
theorem ev34 (F39 : (List (El T45)) → (El TF45) → Option (Bool)) (K : Nat) (a0 : List (El T45)) (a1 : El T45) : evFun Try.prog (tab34 F39) 0 K Try.f34 [] [.row T45 a0, .agg (cellsOf T45 a1)] [] dq34.k = G34 F39 K a0 a1 := by
  kernel_rfl
noncomputable def F34 (K : Nat) (a0 : List (El T45)) (a1 : El T45) : Option (Bool) := G34 (F39 K) K a0 a1
theorem cok34 (K : Nat) : CallOK Try.prog (tab34 (F39 K)) := (add_ok none_ok ent39 (ok39 K))
theorem ok34 (K : Nat) : RowOK Try.prog 34 (row ad34 dq34 fun p => F34 K p.1 p.2) := row_ok fun x r h => has_of (cok34 K) Try.func34 ((ev34 (F39 K) K x.1 x.2).trans h)
end Go.Proofs.YthebmlpohkfhbaaE
