import Derived.Test.YtigekmmdflaeaaaDoorS08F4
set_option linter.all false
namespace Go.Proofs.YtigekmmdflaeaaaDoorE
open Go Go.Proofs
set_option maxRecDepth 100000
set_option linter.unusedVariables false
variable {D : Cx}
/-! ganger/depend.one -/
noncomputable def tab38 : Tab := Tab.none
noncomputable def t38 (K : Nat) (a0 : Int) (a1 : Int) : Option (Int) := (if (a1 == (0 : Int)) = true then some ((3 : Int))
 else (if (a1 == (1 : Int)) = true then some ((1 : Int))
  else (if (a1 == (2 : Int)) = true then (if (a0 != (1 : Int)) = true then some ((1 : Int))
    else (if (a0 == (2 : Int)) = true then (if (a1 == (4 : Int)) = true then some ((3 : Int))
      else (if (a0 == (3 : Int)) = true then (if (a1 == (3 : Int)) = true then some ((3 : Int))
        else some ((2 : Int)))
       else some ((2 : Int))))
     else (if (a0 == (3 : Int)) = true then (if (a1 == (3 : Int)) = true then some ((3 : Int))
       else some ((2 : Int)))
      else some ((2 : Int)))))
   else (if (a0 == (2 : Int)) = true then (if (a1 == (4 : Int)) = true then some ((3 : Int))
     else (if (a0 == (3 : Int)) = true then (if (a1 == (3 : Int)) = true then some ((3 : Int))
       else some ((2 : Int)))
      else some ((2 : Int))))
    else (if (a0 == (3 : Int)) = true then (if (a1 == (3 : Int)) = true then some ((3 : Int))
      else some ((2 : Int)))
     else some ((2 : Int)))))))
noncomputable def G38 (K : Nat) (a0 : Int) (a1 : Int) : Option (Int) := t38 K a0 a1
theorem ev38 (K : Nat) (a0 : Int) (a1 : Int) : evFun Tryd.prog (tab38) 0 K Tryd.f38 [] [I .i64 a0, I .i64 a1] [] dq38.k = G38 K a0 a1 := by
  kernel_rfl
noncomputable def F38 (K : Nat) (a0 : Int) (a1 : Int) : Option (Int) := G38 K a0 a1
theorem cok38 (K : Nat) : CallOK D Tryd.prog (tab38) := none_ok
theorem ok38 (K : Nat) : RowOK D Tryd.prog 38 (row ad38 dq38 fun p => F38 K p.1 p.2) := row_ok fun x r h => has_of (cok38 K) Tryd.func38 ((ev38 K x.1 x.2).trans h)
/-! slices.Index[[]int,int] -/
noncomputable def tab56 : Tab := Tab.none
noncomputable def la56 : List (List Tidy) := [[.only [0, 1, 7, 8], .ids [7], .top [1000000]]]
noncomputable def hd56_0 (a0 : List (El (.int .i64))) (a1 : Int) (ps8 : Int) : St := { tm := slots (nat_lit 19) [(nat_lit 0, AV.row (Ty.int IntKind.i64) a0), (nat_lit 1, AV.sc (Value.int IntKind.i64 a1)), (nat_lit 7, AV.sc (Value.int IntKind.i64 (↑a0.length : Int))), (nat_lit 8, AV.sc (Value.int IntKind.i64 ps8))], H := [] }
noncomputable def b56_0 (K : Nat) (a0 : List (El (.int .i64))) (a1 : Int) (r0 : Int → Option (Int)) (ps8 : Int) : Option (Int) :=(if decide (ps8 < (↑a0.length : Int)) = true then (if decide ((0 : Int) ≤ ps8 ∧ ps8 < (↑a0.length : Int)) = true then (if (a1 == a0.getD ps8.toNat (zEl (Ty.int IntKind.i64))) = true then some (ps8)
    else r0 (IntKind.i64.wrap (ps8 + (1 : Int))))
   else none)
  else some ((-1 : Int)))
noncomputable def L56_0 (K : Nat) (a0 : List (El (.int .i64))) (a1 : Int) : Nat → Int → Option (Int)
  | 0, _ => none
  | n + 1, ps8 => b56_0 K a0 a1 (L56_0 K a0 a1 n) ps8
noncomputable def t56 (K : Nat) (a0 : List (El (.int .i64))) (a1 : Int) (l0 : Nat → Int → Option (Int)) : Option (Int) := l0 K ((0 : Int))
noncomputable def G56 (K : Nat) (a0 : List (El (.int .i64))) (a1 : Int) : Option (Int) := t56 K a0 a1 (L56_0 K a0 a1)
theorem lp56_0 (K : Nat) (a0 : List (El (.int .i64))) (a1 : Int) : ∀ (n : Nat) (ps8 : Int), loopN Tryd.prog (tab56) 0 K Tryd.f56 la56 dq56.k 0 [] n (hd56_0 a0 a1 ps8) = L56_0 K a0 a1 n ps8
  | 0, _ => by kernel_rfl
  | n + 1, ps8 => by
    have h : loopN Tryd.prog (tab56) 0 K Tryd.f56 la56 dq56.k 0 [] (n + 1) (hd56_0 a0 a1 ps8) = b56_0 K a0 a1 (fun q0 => loopN Tryd.prog (tab56) 0 K Tryd.f56 la56 dq56.k 0 [] n (hd56_0 a0 a1 q0)) ps8 := by kernel_rfl
    rw [h]
    simp only [lp56_0 K a0 a1 n]
    rfl
theorem ev56 (K : Nat) (a0 : List (El (.int .i64))) (a1 : Int) : evFun Tryd.prog (tab56) 0 K Tryd.f56 la56 [.row (.int .i64) a0, I .i64 a1] [] dq56.k = G56 K a0 a1 := by
  have h : evFun Tryd.prog (tab56) 0 K Tryd.f56 la56 [.row (.int .i64) a0, I .i64 a1] [] dq56.k = t56 K a0 a1 (fun k q0 => loopN Tryd.prog (tab56) 0 K Tryd.f56 la56 dq56.k 0 [] k (hd56_0 a0 a1 q0)) := by kernel_rfl
  rw [h]
  simp only [lp56_0 K a0 a1]
  rfl
noncomputable def F56 (K : Nat) (a0 : List (El (.int .i64))) (a1 : Int) : Option (Int) := G56 K a0 a1
theorem cok56 (K : Nat) : CallOK D Tryd.prog (tab56) := none_ok
theorem ok56 (K : Nat) : RowOK D Tryd.prog 56 (row ad56 dq56 fun p => F56 K p.1 p.2) := row_ok fun x r h => has_of (cok56 K) Tryd.func56 ((ev56 K x.1 x.2).trans h)
/-! slices.Contains[[]int,int] -/
noncomputable def tab41 (F56 : (List (El (.int .i64))) → Int → Option (Int)) : Tab := (Tab.none.add 56 (row ad56 dq56 fun p => F56 p.1 p.2))
noncomputable def t41 (F56 : (List (El (.int .i64))) → Int → Option (Int)) (K : Nat) (a0 : List (El (.int .i64))) (a1 : Int) : Option (Bool) := 
 (Option.bind (F56 a0 a1) fun x0 => some (decide (x0 ≥ (0 : Int))))
noncomputable def G41 (F56 : (List (El (.int .i64))) → Int → Option (Int)) (K : Nat) (a0 : List (El (.int .i64))) (a1 : Int) : Option (Bool) := t41 F56 K a0 a1
theorem ev41 (F56 : (List (El (.int .i64))) → Int → Option (Int)) (K : Nat) (a0 : List (El (.int .i64))) (a1 : Int) : evFun Tryd.prog (tab41 F56) 0 K Tryd.f41 [] [.row (.int .i64) a0, I .i64 a1] [] dq41.k = G41 F56 K a0 a1 := by
  kernel_rfl
noncomputable def F41 (K : Nat) (a0 : List (El (.int .i64))) (a1 : Int) : Option (Bool) := G41 (F56 K) K a0 a1
theorem cok41 (K : Nat) : CallOK D Tryd.prog (tab41 (F56 K)) := (add_ok none_ok ent56 (ok56 K))
theorem ok41 (K : Nat) : RowOK D Tryd.prog 41 (row ad41 dq41 fun p => F41 K p.1 p.2) := row_ok fun x r h => has_of (cok41 K) Tryd.func41 ((ev41 (F56 K) K x.1 x.2).trans h)
/-! ganger/depend.all -/
noncomputable def tab40 (F41 : (List (El (.int .i64))) → Int → Option (Bool)) : Tab := (Tab.none.add 41 (row ad41 dq41 fun p => F41 p.1 p.2))
noncomputable def t40 (F41 : (List (El (.int .i64))) → Int → Option (Bool)) (K : Nat) (a0 : List (El (.int .i64))) : Option (Int) := 
 (Option.bind (F41 a0 (3 : Int)) fun x0 => (if x0 = true then some ((3 : Int))
  else 
   (Option.bind (F41 a0 (1 : Int)) fun x1 => (if x1 = true then some ((1 : Int))
    else some ((2 : Int))))))
noncomputable def G40 (F41 : (List (El (.int .i64))) → Int → Option (Bool)) (K : Nat) (a0 : List (El (.int .i64))) : Option (Int) := t40 F41 K a0
theorem ev40 (F41 : (List (El (.int .i64))) → Int → Option (Bool)) (K : Nat) (a0 : List (El (.int .i64))) : evFun Tryd.prog (tab40 F41) 0 K Tryd.f40 [] [.row (.int .i64) a0] [] dq40.k = G40 F41 K a0 := by
  kernel_rfl
noncomputable def F40 (K : Nat) (a0 : List (El (.int .i64))) : Option (Int) := G40 (F41 K) K a0
theorem cok40 (K : Nat) : CallOK D Tryd.prog (tab40 (F41 K)) := (add_ok none_ok ent41 (ok41 K))
theorem ok40 (K : Nat) : RowOK D Tryd.prog 40 (row ad40 dq40 fun p => F40 K p) := row_ok fun x r h => has_of (cok40 K) Tryd.func40 ((ev40 (F41 K) K x).trans h)
/-! ganger/depend.Say -/
noncomputable def tab23 (F13 : (El T24) → Option (Int)) (F39 : (List (El T54)) → Int → Option (Int)) (F38 : Int → Int → Option (Int)) (F40 : (List (El (.int .i64))) → Option (Int)) (F41 : (List (El (.int .i64))) → Int → Option (Bool)) : Tab := (((((Tab.none.add 13 (row ad13 dq13 fun p => F13 p)).add 39 (row ad39 dq39 fun p => F39 p.1 p.2)).add 38 (row ad38 dq38 fun p => F38 p.1 p.2)).add 40 (row ad40 dq40 fun p => F40 p)).add 41 (row ad41 dq41 fun p => F41 p.1 p.2))
noncomputable def la23 : List (List Tidy) := [[.only [1, 2, 3, 7, 19, 20, 21], .pro 7 56 3 (Ty.int IntKind.i64), .ids [3, 16, 20, 56, 62, 63, 64, 71], .top [1000000]], [.only [1, 2, 3, 7, 9, 10, 19, 20, 21, 26, 27, 28], .pro 10 40 3 (Ty.int IntKind.i64), .ids [3, 9, 16, 20, 27, 40, 50, 51, 54, 55, 56, 62, 63, 64, 71], .top [1000001]], [.only [7, 63, 64, 65], .ids [3, 9, 16, 20, 27, 37, 38, 39, 40, 50, 51, 54, 55, 56, 62, 63, 64], .top [1000002]]]
noncomputable def hd23_0 (a0 : El T24) (a1 : List (El T54)) (a2 : Bool) (ps21 : Int) (ph56 : List (Int)) : St := { tm := slots (nat_lit 74) [(nat_lit 1, AV.row T54 a1), (nat_lit 2, AV.sc (Value.bool a2)), (nat_lit 3, AV.ptr (nat_lit 3) (nat_lit 0)), (nat_lit 7, AV.own (nat_lit 56)), (nat_lit 19, AV.row T46 a0.2), (nat_lit 20, AV.sc (Value.int IntKind.i64 (↑(List.length a0.2) : Int))), (nat_lit 21, AV.sc (Value.int IntKind.i64 ps21))], H := [(nat_lit 3, ABlk.box (nat_lit 24) (cellsOf T24 a0)), (nat_lit 56, ABlk.arr (nat_lit 3) (Ty.int IntKind.i64) ph56)] }
noncomputable def hd23_1 (a0 : El T24) (a1 : List (El T54)) (a2 : Bool) (ps21 : Int) (ps26 : List (Int)) (ps27 : Int) (ps28 : Int) (ph9 : El T46) (ph40 : List (Int)) (ph56 : List (Int)) : St := { tm := slots (nat_lit 74) [(nat_lit 1, AV.row T54 a1), (nat_lit 2, AV.sc (Value.bool a2)), (nat_lit 3, AV.ptr (nat_lit 3) (nat_lit 0)), (nat_lit 7, AV.own (nat_lit 56)), (nat_lit 9, AV.ptr (nat_lit 9) (nat_lit 0)), (nat_lit 10, AV.own (nat_lit 40)), (nat_lit 19, AV.row T46 a0.2), (nat_lit 20, AV.sc (Value.int IntKind.i64 (↑(List.length a0.2) : Int))), (nat_lit 21, AV.sc (Value.int IntKind.i64 ps21)), (nat_lit 26, AV.row (Ty.int IntKind.u32) ps26), (nat_lit 27, AV.sc (Value.int IntKind.i64 ps27)), (nat_lit 28, AV.sc (Value.int IntKind.i64 ps28))], H := [(nat_lit 3, ABlk.box (nat_lit 24) (cellsOf T24 a0)), (nat_lit 9, ABlk.box (nat_lit 46) (cellsOf T46 ph9)), (nat_lit 40, ABlk.arr (nat_lit 3) (Ty.int IntKind.i64) ph40), (nat_lit 56, ABlk.arr (nat_lit 3) (Ty.int IntKind.i64) ph56)] }
noncomputable def hd23_2 (a0 : El T24) (a1 : List (El T54)) (a2 : Bool) (ps65 : Int) (ph56 : List (Int)) : St := { tm := slots (nat_lit 74) [(nat_lit 7, AV.own (nat_lit 56)), (nat_lit 63, AV.own (nat_lit 63)), (nat_lit 64, AV.sc (Value.int IntKind.i64 (↑[(2 : Int), (1 : Int)].length : Int))), (nat_lit 65, AV.sc (Value.int IntKind.i64 ps65))], H := [(nat_lit 3, ABlk.box (nat_lit 24) (cellsOf T24 a0)), (nat_lit 56, ABlk.arr (nat_lit 3) (Ty.int IntKind.i64) ph56), (nat_lit 63, ABlk.arr (nat_lit 3) (Ty.int IntKind.i64) [(2 : Int), (1 : Int)])] }
noncomputable def b23_2 (F13 : (El T24) → Option (Int)) (F39 : (List (El T54)) → Int → Option (Int)) (F38 : Int → Int → Option (Int)) (F40 : (List (El (.int .i64))) → Option (Int)) (F41 : (List (El (.int .i64))) → Int → Option (Bool)) (K : Nat) (a0 : El T24) (a1 : List (El T54)) (a2 : Bool) (r2 : Int → (List (Int)) → Option (Int)) (ps65 : Int) (ph56 : List (Int)) : Option (Int) :=(if decide (ps65 < (↑[(2 : Int), (1 : Int)].length : Int)) = true then (if decide ((0 : Int) ≤ ps65 ∧ ps65 < (↑[(2 : Int), (1 : Int)].length : Int)) = true then 
    (Option.bind (F41 ph56 ([(2 : Int), (1 : Int)].getD ps65.toNat (zEl (Ty.int IntKind.i64)))) fun x7 => (if x7 = true then some ([(2 : Int), (1 : Int)].getD ps65.toNat (zEl (Ty.int IntKind.i64)))
     else r2 (IntKind.i64.wrap (ps65 + (1 : Int))) (ph56)))
   else none)
  else some ((3 : Int)))
noncomputable def L23_2 (F13 : (El T24) → Option (Int)) (F39 : (List (El T54)) → Int → Option (Int)) (F38 : Int → Int → Option (Int)) (F40 : (List (El (.int .i64))) → Option (Int)) (F41 : (List (El (.int .i64))) → Int → Option (Bool)) (K : Nat) (a0 : El T24) (a1 : List (El T54)) (a2 : Bool) : Nat → Int → (List (Int)) → Option (Int)
  | 0, _, _ => none
  | n + 1, ps65, ph56 => b23_2 F13 F39 F38 F40 F41 K a0 a1 a2 (L23_2 F13 F39 F38 F40 F41 K a0 a1 a2 n) ps65 ph56
noncomputable def b23_1 (F13 : (El T24) → Option (Int)) (F39 : (List (El T54)) → Int → Option (Int)) (F38 : Int → Int → Option (Int)) (F40 : (List (El (.int .i64))) → Option (Int)) (F41 : (List (El (.int .i64))) → Int → Option (Bool)) (K : Nat) (a0 : El T24) (a1 : List (El T54)) (a2 : Bool) (r0 : Int → (List (Int)) → Option (Int)) (r1 : Int → (List (Int)) → Int → Int → (El T46) → (List (Int)) → (List (Int)) → Option (Int)) (ps21 : Int) (ps26 : List (Int)) (ps27 : Int) (ps28 : Int) (ph9 : El T46) (ph40 : List (Int)) (ph56 : List (Int)) : Option (Int) :=(if decide (ps28 < ps27) = true then (if decide ((0 : Int) ≤ ps28 ∧ ps28 < (↑ps26.length : Int)) = true then 
    (Option.bind (F39 a1 (ps26.getD ps28.toNat (zEl (Ty.int IntKind.u32)))) fun x2 => 
     (Option.bind (F38 ph9.1 x2) fun x3 => (if decide ((ph40.length + [x3].length) * Tryd.prog.types[(3 : Nat)].bytes ≤ (140737488355328 : Nat)) = true then r1 (ps21) (ps26) (ps27) (IntKind.i64.wrap (ps28 + (1 : Int))) (ph9) (ph40 ++ [x3]) (ph56)
      else none)))
   else none)
  else (if (ph9.1 == (5 : Int)) = true then (if (!a2) = true then (if decide ((ph40.length + [(1 : Int)].length) * Tryd.prog.types[(3 : Nat)].bytes ≤ (140737488355328 : Nat)) = true then 
      (Option.bind (F40 (ph40 ++ [(1 : Int)])) fun x4 => (if decide ((ph56.length + [x4].length) * Tryd.prog.types[(3 : Nat)].bytes ≤ (140737488355328 : Nat)) = true then r0 (IntKind.i64.wrap (ps21 + (1 : Int))) (ph56 ++ [x4])
       else none))
     else none)
    else 
     (Option.bind (F40 ph40) fun x5 => (if decide ((ph56.length + [x5].length) * Tryd.prog.types[(3 : Nat)].bytes ≤ (140737488355328 : Nat)) = true then r0 (IntKind.i64.wrap (ps21 + (1 : Int))) (ph56 ++ [x5])
      else none)))
   else 
    (Option.bind (F40 ph40) fun x6 => (if decide ((ph56.length + [x6].length) * Tryd.prog.types[(3 : Nat)].bytes ≤ (140737488355328 : Nat)) = true then r0 (IntKind.i64.wrap (ps21 + (1 : Int))) (ph56 ++ [x6])
     else none))))
noncomputable def L23_1 (F13 : (El T24) → Option (Int)) (F39 : (List (El T54)) → Int → Option (Int)) (F38 : Int → Int → Option (Int)) (F40 : (List (El (.int .i64))) → Option (Int)) (F41 : (List (El (.int .i64))) → Int → Option (Bool)) (K : Nat) (a0 : El T24) (a1 : List (El T54)) (a2 : Bool) (r0 : Int → (List (Int)) → Option (Int)) : Nat → Int → (List (Int)) → Int → Int → (El T46) → (List (Int)) → (List (Int)) → Option (Int)
  | 0, _, _, _, _, _, _, _ => none
  | n + 1, ps21, ps26, ps27, ps28, ph9, ph40, ph56 => b23_1 F13 F39 F38 F40 F41 K a0 a1 a2 r0 (L23_1 F13 F39 F38 F40 F41 K a0 a1 a2 r0 n) ps21 ps26 ps27 ps28 ph9 ph40 ph56
noncomputable def b23_0 (F13 : (El T24) → Option (Int)) (F39 : (List (El T54)) → Int → Option (Int)) (F38 : Int → Int → Option (Int)) (F40 : (List (El (.int .i64))) → Option (Int)) (F41 : (List (El (.int .i64))) → Int → Option (Bool)) (K : Nat) (a0 : El T24) (a1 : List (El T54)) (a2 : Bool) (r0 : Int → (List (Int)) → Option (Int)) (l1 : Nat → Int → (List (Int)) → Int → Int → (El T46) → (List (Int)) → (List (Int)) → Option (Int)) (l2 : Nat → Int → (List (Int)) → Option (Int)) (ps21 : Int) (ph56 : List (Int)) : Option (Int) :=(if decide (ps21 < (↑(List.length a0.2) : Int)) = true then (if decide ((0 : Int) ≤ ps21 ∧ ps21 < (↑(List.length a0.2) : Int)) = true then l1 K (ps21) ((List.getD a0.2 ps21.toNat (zEl T46)).2) ((↑(List.length (List.getD a0.2 ps21.toNat (zEl T46)).2) : Int)) ((0 : Int)) (List.getD a0.2 ps21.toNat (zEl T46)) ([]) (ph56)
   else none)
  else (if (!a0.1) = true then 
    (Option.bind (F40 ph56) fun x1 => some (x1))
   else l2 K ((0 : Int)) (ph56)))
noncomputable def L23_0 (F13 : (El T24) → Option (Int)) (F39 : (List (El T54)) → Int → Option (Int)) (F38 : Int → Int → Option (Int)) (F40 : (List (El (.int .i64))) → Option (Int)) (F41 : (List (El (.int .i64))) → Int → Option (Bool)) (K : Nat) (a0 : El T24) (a1 : List (El T54)) (a2 : Bool) : Nat → Int → (List (Int)) → Option (Int)
  | 0, _, _ => none
  | n + 1, ps21, ph56 => b23_0 F13 F39 F38 F40 F41 K a0 a1 a2 (L23_0 F13 F39 F38 F40 F41 K a0 a1 a2 n) (L23_1 F13 F39 F38 F40 F41 K a0 a1 a2 (L23_0 F13 F39 F38 F40 F41 K a0 a1 a2 n)) (L23_2 F13 F39 F38 F40 F41 K a0 a1 a2) ps21 ph56
noncomputable def t23 (F13 : (El T24) → Option (Int)) (F39 : (List (El T54)) → Int → Option (Int)) (F38 : Int → Int → Option (Int)) (F40 : (List (El (.int .i64))) → Option (Int)) (F41 : (List (El (.int .i64))) → Int → Option (Bool)) (K : Nat) (a0 : El T24) (a1 : List (El T54)) (a2 : Bool) (l0 : Nat → Int → (List (Int)) → Option (Int)) : Option (Int) := 
 (Option.bind (F13 a0) fun x0 => (if (x0 != (0 : Int)) = true then some ((0 : Int))
  else l0 K ((0 : Int)) ([])))
noncomputable def G23 (F13 : (El T24) → Option (Int)) (F39 : (List (El T54)) → Int → Option (Int)) (F38 : Int → Int → Option (Int)) (F40 : (List (El (.int .i64))) → Option (Int)) (F41 : (List (El (.int .i64))) → Int → Option (Bool)) (K : Nat) (a0 : El T24) (a1 : List (El T54)) (a2 : Bool) : Option (Int) := t23 F13 F39 F38 F40 F41 K a0 a1 a2 (L23_0 F13 F39 F38 F40 F41 K a0 a1 a2)
theorem lp23_2 (F13 : (El T24) → Option (Int)) (F39 : (List (El T54)) → Int → Option (Int)) (F38 : Int → Int → Option (Int)) (F40 : (List (El (.int .i64))) → Option (Int)) (F41 : (List (El (.int .i64))) → Int → Option (Bool)) (K : Nat) (a0 : El T24) (a1 : List (El T54)) (a2 : Bool) : ∀ (n : Nat) (ps65 : Int) (ph56 : List (Int)), loopN Tryd.prog (tab23 F13 F39 F38 F40 F41) 0 K Tryd.f23 la23 dq23.k 2 [] n (hd23_2 a0 a1 a2 ps65 ph56) = L23_2 F13 F39 F38 F40 F41 K a0 a1 a2 n ps65 ph56
  | 0, _, _ => by kernel_rfl
  | n + 1, ps65, ph56 => by
    have h : loopN Tryd.prog (tab23 F13 F39 F38 F40 F41) 0 K Tryd.f23 la23 dq23.k 2 [] (n + 1) (hd23_2 a0 a1 a2 ps65 ph56) = b23_2 F13 F39 F38 F40 F41 K a0 a1 a2 (fun q0 q1 => loopN Tryd.prog (tab23 F13 F39 F38 F40 F41) 0 K Tryd.f23 la23 dq23.k 2 [] n (hd23_2 a0 a1 a2 q0 q1)) ps65 ph56 := by kernel_rfl
    rw [h]
    simp only [lp23_2 F13 F39 F38 F40 F41 K a0 a1 a2 n]
    rfl
theorem lp23_1 (F13 : (El T24) → Option (Int)) (F39 : (List (El T54)) → Int → Option (Int)) (F38 : Int → Int → Option (Int)) (F40 : (List (El (.int .i64))) → Option (Int)) (F41 : (List (El (.int .i64))) → Int → Option (Bool)) (K : Nat) (a0 : El T24) (a1 : List (El T54)) (a2 : Bool) : ∀ (m0 : Nat) (n : Nat) (ps21 : Int) (ps26 : List (Int)) (ps27 : Int) (ps28 : Int) (ph9 : El T46) (ph40 : List (Int)) (ph56 : List (Int)), loopN Tryd.prog (tab23 F13 F39 F38 F40 F41) 0 K Tryd.f23 la23 dq23.k 1 [m0] n (hd23_1 a0 a1 a2 ps21 ps26 ps27 ps28 ph9 ph40 ph56) = L23_1 F13 F39 F38 F40 F41 K a0 a1 a2 (fun q0 q1 => loopN Tryd.prog (tab23 F13 F39 F38 F40 F41) 0 K Tryd.f23 la23 dq23.k 0 [] m0 (hd23_0 a0 a1 a2 q0 q1)) n ps21 ps26 ps27 ps28 ph9 ph40 ph56
  | m0, 0, _, _, _, _, _, _, _ => by kernel_rfl
  | m0, n + 1, ps21, ps26, ps27, ps28, ph9, ph40, ph56 => by
    have h : loopN Tryd.prog (tab23 F13 F39 F38 F40 F41) 0 K Tryd.f23 la23 dq23.k 1 [m0] (n + 1) (hd23_1 a0 a1 a2 ps21 ps26 ps27 ps28 ph9 ph40 ph56) = b23_1 F13 F39 F38 F40 F41 K a0 a1 a2 (fun q0 q1 => loopN Tryd.prog (tab23 F13 F39 F38 F40 F41) 0 K Tryd.f23 la23 dq23.k 0 [] m0 (hd23_0 a0 a1 a2 q0 q1)) (fun q0 q1 q2 q3 q4 q5 q6 => loopN Tryd.prog (tab23 F13 F39 F38 F40 F41) 0 K Tryd.f23 la23 dq23.k 1 [m0] n (hd23_1 a0 a1 a2 q0 q1 q2 q3 q4 q5 q6)) ps21 ps26 ps27 ps28 ph9 ph40 ph56 := by kernel_rfl
    rw [h]
    simp only [lp23_1 F13 F39 F38 F40 F41 K a0 a1 a2 m0 n]
    rfl
theorem lp23_0 (F13 : (El T24) → Option (Int)) (F39 : (List (El T54)) → Int → Option (Int)) (F38 : Int → Int → Option (Int)) (F40 : (List (El (.int .i64))) → Option (Int)) (F41 : (List (El (.int .i64))) → Int → Option (Bool)) (K : Nat) (a0 : El T24) (a1 : List (El T54)) (a2 : Bool) : ∀ (n : Nat) (ps21 : Int) (ph56 : List (Int)), loopN Tryd.prog (tab23 F13 F39 F38 F40 F41) 0 K Tryd.f23 la23 dq23.k 0 [] n (hd23_0 a0 a1 a2 ps21 ph56) = L23_0 F13 F39 F38 F40 F41 K a0 a1 a2 n ps21 ph56
  | 0, _, _ => by kernel_rfl
  | n + 1, ps21, ph56 => by
    have h : loopN Tryd.prog (tab23 F13 F39 F38 F40 F41) 0 K Tryd.f23 la23 dq23.k 0 [] (n + 1) (hd23_0 a0 a1 a2 ps21 ph56) = b23_0 F13 F39 F38 F40 F41 K a0 a1 a2 (fun q0 q1 => loopN Tryd.prog (tab23 F13 F39 F38 F40 F41) 0 K Tryd.f23 la23 dq23.k 0 [] n (hd23_0 a0 a1 a2 q0 q1)) (fun k q0 q1 q2 q3 q4 q5 q6 => loopN Tryd.prog (tab23 F13 F39 F38 F40 F41) 0 K Tryd.f23 la23 dq23.k 1 [n] k (hd23_1 a0 a1 a2 q0 q1 q2 q3 q4 q5 q6)) (fun k q0 q1 => loopN Tryd.prog (tab23 F13 F39 F38 F40 F41) 0 K Tryd.f23 la23 dq23.k 2 [] k (hd23_2 a0 a1 a2 q0 q1)) ps21 ph56 := by kernel_rfl
    rw [h]
    simp only [lp23_0 F13 F39 F38 F40 F41 K a0 a1 a2 n, lp23_1 F13 F39 F38 F40 F41 K a0 a1 a2 n, lp23_2 F13 F39 F38 F40 F41 K a0 a1 a2]
    rfl
theorem ev23 (F13 : (El T24) → Option (Int)) (F39 : (List (El T54)) → Int → Option (Int)) (F38 : Int → Int → Option (Int)) (F40 : (List (El (.int .i64))) → Option (Int)) (F41 : (List (El (.int .i64))) → Int → Option (Bool)) (K : Nat) (a0 : El T24) (a1 : List (El T54)) (a2 : Bool) : evFun Tryd.prog (tab23 F13 F39 F38 F40 F41) 0 K Tryd.f23 la23 [.agg (cellsOf T24 a0), .row T54 a1, B a2] [] dq23.k = G23 F13 F39 F38 F40 F41 K a0 a1 a2 := by
  have h : evFun Tryd.prog (tab23 F13 F39 F38 F40 F41) 0 K Tryd.f23 la23 [.agg (cellsOf T24 a0), .row T54 a1, B a2] [] dq23.k = t23 F13 F39 F38 F40 F41 K a0 a1 a2 (fun k q0 q1 => loopN Tryd.prog (tab23 F13 F39 F38 F40 F41) 0 K Tryd.f23 la23 dq23.k 0 [] k (hd23_0 a0 a1 a2 q0 q1)) := by kernel_rfl
  rw [h]
  simp only [lp23_0 F13 F39 F38 F40 F41 K a0 a1 a2]
  rfl
noncomputable def F23 (K : Nat) (a0 : El T24) (a1 : List (El T54)) (a2 : Bool) : Option (Int) := G23 (F13 K) (F39 K) (F38 K) (F40 K) (F41 K) K a0 a1 a2
theorem cok23 (K : Nat) : CallOK D Tryd.prog (tab23 (F13 K) (F39 K) (F38 K) (F40 K) (F41 K)) := (add_ok (add_ok (add_ok (add_ok (add_ok none_ok ent13 (ok13 K)) ent39 (ok39 K)) ent38 (ok38 K)) ent40 (ok40 K)) ent41 (ok41 K))
theorem ok23 (K : Nat) : RowOK D Tryd.prog 23 (row ad23 dq23 fun p => F23 K p.1 p.2.1 p.2.2) := row_ok fun x r h => has_of (cok23 K) Tryd.func23 ((ev23 (F13 K) (F39 K) (F38 K) (F40 K) (F41 K) K x.1 x.2.1 x.2.2).trans h)
end Go.Proofs.YtigekmmdflaeaaaDoorE
