import Derived.Test.YthebmlpohkfhbaaS14F3
set_option linter.all false
namespace Go.Proofs.YthebmlpohkfhbaaE
open Go Go.Proofs
set_option maxRecDepth 100000
set_option linter.unusedVariables false
/-! ganger/depend.how$1 -/
noncomputable def tab51 : Tab := Tab.none
noncomputable def t51 (K : Nat) (a0 : El T70) (a1 : Int) : Option (Bool) := some (a0.1 == a1)
noncomputable def G51 (K : Nat) (a0 : El T70) (a1 : Int) : Option (Bool) := t51 K a0 a1
theorem ev51 (K : Nat) (a0 : El T70) (a1 : Int) : evFun Try.prog (tab51) 0 K Try.f51 [] [.agg (cellsOf T70 a0), .eptr (.int .u32) a1 0] [] dq51.k = G51 K a0 a1 := by
  kernel_rfl
noncomputable def F51 (K : Nat) (a0 : El T70) (a1 : Int) : Option (Bool) := G51 K a0 a1
theorem cok51 (K : Nat) : CallOK Try.prog (tab51) := none_ok
theorem ok51 (K : Nat) : RowOK Try.prog 51 (row ad51 dq51 fun p => F51 K p.1 p.2) := row_ok fun x r h => has_of (cok51 K) Try.func51 ((ev51 K x.1 x.2).trans h)
/-! slices.IndexFunc[[]ganger/api.Where,ganger/api.Where] -/
noncomputable def tab50 (F51 : (El T70) → Int → Option (Bool)) : Tab := (Tab.none.add 51 (row ad51 dq51 fun p => F51 p.1 p.2))
noncomputable def la50 : List (List Tidy) := [[.only [0, 1, 7, 8], .ids [7], .top [1000000]]]
noncomputable def hd50_0 (a0 : List (El T70)) (a1 : Int) (ps8 : Int) : St := { tm := slots (nat_lit 19) [(nat_lit 0, AV.row T70 a0), (nat_lit 1, AV.fn (nat_lit 51) [AV.eptr (Ty.int IntKind.u32) a1 (nat_lit 0)]), (nat_lit 7, AV.sc (Value.int IntKind.i64 (↑a0.length : Int))), (nat_lit 8, AV.sc (Value.int IntKind.i64 ps8))], H := [] }
noncomputable def b50_0 (F51 : (El T70) → Int → Option (Bool)) (K : Nat) (a0 : List (El T70)) (a1 : Int) (r0 : Int → Option (Int)) (ps8 : Int) : Option (Int) :=(if decide (ps8 < (↑a0.length : Int)) = true then (if decide ((0 : Int) ≤ ps8 ∧ ps8 < (↑a0.length : Int)) = true then 
    (Option.bind (F51 (a0.getD ps8.toNat (zEl T70)) a1) fun x0 => (if x0 = true then some (ps8)
     else r0 (IntKind.i64.wrap (ps8 + (1 : Int)))))
   else none)
  else some ((-1 : Int)))
noncomputable def L50_0 (F51 : (El T70) → Int → Option (Bool)) (K : Nat) (a0 : List (El T70)) (a1 : Int) : Nat → Int → Option (Int)
  | 0, _ => none
  | n + 1, ps8 => b50_0 F51 K a0 a1 (L50_0 F51 K a0 a1 n) ps8
noncomputable def t50 (F51 : (El T70) → Int → Option (Bool)) (K : Nat) (a0 : List (El T70)) (a1 : Int) (l0 : Nat → Int → Option (Int)) : Option (Int) := l0 K ((0 : Int))
noncomputable def G50 (F51 : (El T70) → Int → Option (Bool)) (K : Nat) (a0 : List (El T70)) (a1 : Int) : Option (Int) := t50 F51 K a0 a1 (L50_0 F51 K a0 a1)
theorem lp50_0 (F51 : (El T70) → Int → Option (Bool)) (K : Nat) (a0 : List (El T70)) (a1 : Int) : ∀ (n : Nat) (ps8 : Int), loopN Try.prog (tab50 F51) 0 K Try.f50 la50 dq50.k 0 [] n (hd50_0 a0 a1 ps8) = L50_0 F51 K a0 a1 n ps8
  | 0, _ => by kernel_rfl
  | n + 1, ps8 => by
    have h : loopN Try.prog (tab50 F51) 0 K Try.f50 la50 dq50.k 0 [] (n + 1) (hd50_0 a0 a1 ps8) = b50_0 F51 K a0 a1 (fun q0 => loopN Try.prog (tab50 F51) 0 K Try.f50 la50 dq50.k 0 [] n (hd50_0 a0 a1 q0)) ps8 := by kernel_rfl
    rw [h]
    simp only [lp50_0 F51 K a0 a1 n]
    rfl
theorem ev50 (F51 : (El T70) → Int → Option (Bool)) (K : Nat) (a0 : List (El T70)) (a1 : Int) : evFun Try.prog (tab50 F51) 0 K Try.f50 la50 [.row T70 a0, .fn 51 [.eptr (.int .u32) a1 0]] [] dq50.k = G50 F51 K a0 a1 := by
  have h : evFun Try.prog (tab50 F51) 0 K Try.f50 la50 [.row T70 a0, .fn 51 [.eptr (.int .u32) a1 0]] [] dq50.k = t50 F51 K a0 a1 (fun k q0 => loopN Try.prog (tab50 F51) 0 K Try.f50 la50 dq50.k 0 [] k (hd50_0 a0 a1 q0)) := by kernel_rfl
  rw [h]
  simp only [lp50_0 F51 K a0 a1]
  rfl
noncomputable def F50 (K : Nat) (a0 : List (El T70)) (a1 : Int) : Option (Int) := G50 (F51 K) K a0 a1
theorem cok50 (K : Nat) : CallOK Try.prog (tab50 (F51 K)) := (add_ok none_ok ent51 (ok51 K))
theorem ok50 (K : Nat) : RowOK Try.prog 50 (row ad50 dq50 fun p => F50 K p.1 p.2) := row_ok fun x r h => has_of (cok50 K) Try.func50 ((ev50 (F51 K) K x.1 x.2).trans h)
/-! ganger/depend.Check -/
noncomputable def tab43 (F49 : (List (El (.int .u32))) → Int → Option (Bool)) : Tab := (Tab.none.add 49 (row ad49 dq49 fun p => F49 p.1 p.2))
noncomputable def la43 : List (List Tidy) := [[.only [21, 22, 23], .ids [1, 8, 16, 22], .top [1000000]]]
noncomputable def hd43_0 (a0 : El T39) (ps23 : Int) : St := { tm := slots (nat_lit 58) [(nat_lit 21, AV.row T54 a0.2), (nat_lit 22, AV.sc (Value.int IntKind.i64 (↑(List.length a0.2) : Int))), (nat_lit 23, AV.sc (Value.int IntKind.i64 ps23))], H := [(nat_lit 1, ABlk.box (nat_lit 39) (cellsOf T39 a0))] }
noncomputable def b43_0 (F49 : (List (El (.int .u32))) → Int → Option (Bool)) (K : Nat) (a0 : El T39) (r0 : Int → Option (Int)) (ps23 : Int) : Option (Int) :=(if decide (ps23 < (↑(List.length a0.2) : Int)) = true then (if decide ((0 : Int) ≤ ps23 ∧ ps23 < (↑(List.length a0.2) : Int)) = true then (if decide ((List.getD a0.2 ps23.toNat (zEl T54)).1 < (1 : Int)) = true then some ((2 : Int))
    else (if decide ((List.getD a0.2 ps23.toNat (zEl T54)).1 > (5 : Int)) = true then some ((2 : Int))
     else (if (!((List.getD a0.2 ps23.toNat (zEl T54)).1 == (5 : Int)) == ((↑(List.length (List.getD a0.2 ps23.toNat (zEl T54)).2) : Int) == (0 : Int))) = true then some ((2 : Int))
      else (if decide ((↑(List.length (List.getD a0.2 ps23.toNat (zEl T54)).2) : Int) > (20 : Int)) = true then some ((2 : Int))
       else 
        (Option.bind (F49 (List.getD a0.2 ps23.toNat (zEl T54)).2 (0 : Int)) fun x0 => (if x0 = true then some ((2 : Int))
         else r0 (IntKind.i64.wrap (ps23 + (1 : Int)))))))))
   else none)
  else some ((0 : Int)))
noncomputable def L43_0 (F49 : (List (El (.int .u32))) → Int → Option (Bool)) (K : Nat) (a0 : El T39) : Nat → Int → Option (Int)
  | 0, _ => none
  | n + 1, ps23 => b43_0 F49 K a0 (L43_0 F49 K a0 n) ps23
noncomputable def t43 (F49 : (List (El (.int .u32))) → Int → Option (Bool)) (K : Nat) (a0 : El T39) (l0 : Nat → Int → Option (Int)) : Option (Int) := (if decide ((↑(List.length a0.2) : Int) > (20 : Int)) = true then some ((2 : Int))
 else (if a0.1 = true then (if decide ((↑(List.length a0.2) : Int) < (2 : Int)) = true then some ((2 : Int))
   else l0 K ((0 : Int)))
  else l0 K ((0 : Int))))
noncomputable def G43 (F49 : (List (El (.int .u32))) → Int → Option (Bool)) (K : Nat) (a0 : El T39) : Option (Int) := t43 F49 K a0 (L43_0 F49 K a0)
theorem lp43_0 (F49 : (List (El (.int .u32))) → Int → Option (Bool)) (K : Nat) (a0 : El T39) : ∀ (n : Nat) (ps23 : Int), loopN Try.prog (tab43 F49) 0 K Try.f43 la43 dq43.k 0 [] n (hd43_0 a0 ps23) = L43_0 F49 K a0 n ps23
  | 0, _ => by kernel_rfl
  | n + 1, ps23 => by
    have h : loopN Try.prog (tab43 F49) 0 K Try.f43 la43 dq43.k 0 [] (n + 1) (hd43_0 a0 ps23) = b43_0 F49 K a0 (fun q0 => loopN Try.prog (tab43 F49) 0 K Try.f43 la43 dq43.k 0 [] n (hd43_0 a0 q0)) ps23 := by kernel_rfl
    rw [h]
    simp only [lp43_0 F49 K a0 n]
    rfl
theorem ev43 (F49 : (List (El (.int .u32))) → Int → Option (Bool)) (K : Nat) (a0 : El T39) : evFun Try.prog (tab43 F49) 0 K Try.f43 la43 [.agg (cellsOf T39 a0)] [] dq43.k = G43 F49 K a0 := by
  have h : evFun Try.prog (tab43 F49) 0 K Try.f43 la43 [.agg (cellsOf T39 a0)] [] dq43.k = t43 F49 K a0 (fun k q0 => loopN Try.prog (tab43 F49) 0 K Try.f43 la43 dq43.k 0 [] k (hd43_0 a0 q0)) := by kernel_rfl
  rw [h]
  simp only [lp43_0 F49 K a0]
  rfl
noncomputable def F43 (K : Nat) (a0 : El T39) : Option (Int) := G43 (F49 K) K a0
theorem cok43 (K : Nat) : CallOK Try.prog (tab43 (F49 K)) := (add_ok none_ok ent49 (ok49 K))
theorem ok43 (K : Nat) : RowOK Try.prog 43 (row ad43 dq43 fun p => F43 K p) := row_ok fun x r h => has_of (cok43 K) Try.func43 ((ev43 (F49 K) K x).trans h)
/-! ganger/depend.one -/
noncomputable def tab44 : Tab := Tab.none
noncomputable def t44 (K : Nat) (a0 : Int) (a1 : Int) : Option (Int) := (if (a1 == (0 : Int)) = true then some ((3 : Int))
 else (if (a1 == (1 : Int)) = true then some ((1 : Int))
  else (if (a1 == (2 : Int)) = true then (if (a0 != (1 : Int)) = true then some ((1 : Int))
    else (if (a0 == (2 : Int)) = true then (if (a1 == (4 : Int)) = true then some ((3 : Int))
      else (if (a0 == (3 : Int)) = true then (if (a1 == (3 : Int)) = true then some ((3 : Int))
        else some ((2 : Int)))
       else some ((2 : Int))))
     else (if (a0 == (3 : Int)) = true then (if (a1 == (3 : Int)) = true then some ((3 : Int))
       else some ((2 : Int)))
      else some ((2 : Int)))))
   else (if (a0 == (2 : Int)) = true then (if (a1 == (4 : Int)) = true then some ((3 : Int))
     else (if (a0 == (3 : Int)) = true then (if (a1 == (3 : Int)) = true then some ((3 : Int))
       else some ((2 : Int)))
      else some ((2 : Int))))
    else (if (a0 == (3 : Int)) = true then (if (a1 == (3 : Int)) = true then some ((3 : Int))
      else some ((2 : Int)))
     else some ((2 : Int)))))))
noncomputable def G44 (K : Nat) (a0 : Int) (a1 : Int) : Option (Int) := t44 K a0 a1
theorem ev44 (K : Nat) (a0 : Int) (a1 : Int) : evFun Try.prog (tab44) 0 K Try.f44 [] [I .i64 a0, I .i64 a1] [] dq44.k = G44 K a0 a1 := by
  kernel_rfl
noncomputable def F44 (K : Nat) (a0 : Int) (a1 : Int) : Option (Int) := G44 K a0 a1
theorem cok44 (K : Nat) : CallOK Try.prog (tab44) := none_ok
theorem ok44 (K : Nat) : RowOK Try.prog 44 (row ad44 dq44 fun p => F44 K p.1 p.2) := row_ok fun x r h => has_of (cok44 K) Try.func44 ((ev44 K x.1 x.2).trans h)
/-! ganger/depend.how -/
noncomputable def tab45 (F50 : (List (El T70)) → Int → Option (Int)) : Tab := (Tab.none.add 50 (row ad50 dq50 fun p => F50 p.1 p.2))
noncomputable def t45 (F50 : (List (El T70)) → Int → Option (Int)) (K : Nat) (a0 : List (El T70)) (a1 : Int) : Option (Int) := 
 (Option.bind (F50 a0 a1) fun x0 => (if decide (x0 < (0 : Int)) = true then some ((0 : Int))
  else (if decide ((0 : Int) ≤ x0 ∧ x0 < (↑a0.length : Int)) = true then (if decide ((a0.getD (Int.toNat x0) (zEl T70)).2 < (1 : Int)) = true then some ((0 : Int))
    else (if decide ((0 : Int) ≤ x0 ∧ x0 < (↑a0.length : Int)) = true then (if decide ((a0.getD (Int.toNat x0) (zEl T70)).2 > (4 : Int)) = true then some ((0 : Int))
      else (if decide ((0 : Int) ≤ x0 ∧ x0 < (↑a0.length : Int)) = true then some ((a0.getD (Int.toNat x0) (zEl T70)).2)
       else none))
     else none))
   else none)))
noncomputable def G45 (F50 : (List (El T70)) → Int → Option (Int)) (K : Nat) (a0 : List (El T70)) (a1 : Int) : Option (Int) := t45 F50 K a0 a1
theorem ev45 (F50 : (List (El T70)) → Int → Option (Int)) (K : Nat) (a0 : List (El T70)) (a1 : Int) : evFun Try.prog (tab45 F50) 0 K Try.f45 [] [.row T70 a0, I .u32 a1] [] dq45.k = G45 F50 K a0 a1 := by
  kernel_rfl
noncomputable def F45 (K : Nat) (a0 : List (El T70)) (a1 : Int) : Option (Int) := G45 (F50 K) K a0 a1
theorem cok45 (K : Nat) : CallOK Try.prog (tab45 (F50 K)) := (add_ok none_ok ent50 (ok50 K))
theorem ok45 (K : Nat) : RowOK Try.prog 45 (row ad45 dq45 fun p => F45 K p.1 p.2) := row_ok fun x r h => has_of (cok45 K) Try.func45 ((ev45 (F50 K) K x.1 x.2).trans h)
/-! ganger/depend.all -/
noncomputable def tab46 (F47 : (List (El (.int .i64))) → Int → Option (Bool)) : Tab := (Tab.none.add 47 (row ad47 dq47 fun p => F47 p.1 p.2))
noncomputable def t46 (F47 : (List (El (.int .i64))) → Int → Option (Bool)) (K : Nat) (a0 : List (El (.int .i64))) : Option (Int) := 
 (Option.bind (F47 a0 (3 : Int)) fun x0 => (if x0 = true then some ((3 : Int))
  else 
   (Option.bind (F47 a0 (1 : Int)) fun x1 => (if x1 = true then some ((1 : Int))
    else some ((2 : Int))))))
noncomputable def G46 (F47 : (List (El (.int .i64))) → Int → Option (Bool)) (K : Nat) (a0 : List (El (.int .i64))) : Option (Int) := t46 F47 K a0
theorem ev46 (F47 : (List (El (.int .i64))) → Int → Option (Bool)) (K : Nat) (a0 : List (El (.int .i64))) : evFun Try.prog (tab46 F47) 0 K Try.f46 [] [.row (.int .i64) a0] [] dq46.k = G46 F47 K a0 := by
  kernel_rfl
noncomputable def F46 (K : Nat) (a0 : List (El (.int .i64))) : Option (Int) := G46 (F47 K) K a0
theorem cok46 (K : Nat) : CallOK Try.prog (tab46 (F47 K)) := (add_ok none_ok ent47 (ok47 K))
theorem ok46 (K : Nat) : RowOK Try.prog 46 (row ad46 dq46 fun p => F46 K p) := row_ok fun x r h => has_of (cok46 K) Try.func46 ((ev46 (F47 K) K x).trans h)
/-! ganger/depend.Say -/
noncomputable def tab38 (F43 : (El T39) → Option (Int)) (F45 : (List (El T70)) → Int → Option (Int)) (F44 : Int → Int → Option (Int)) (F46 : (List (El (.int .i64))) → Option (Int)) (F47 : (List (El (.int .i64))) → Int → Option (Bool)) : Tab := (((((Tab.none.add 43 (row ad43 dq43 fun p => F43 p)).add 45 (row ad45 dq45 fun p => F45 p.1 p.2)).add 44 (row ad44 dq44 fun p => F44 p.1 p.2)).add 46 (row ad46 dq46 fun p => F46 p)).add 47 (row ad47 dq47 fun p => F47 p.1 p.2))
noncomputable def la38 : List (List Tidy) := [[.only [1, 2, 3, 7, 19, 20, 21], .pro 7 56 3 (Ty.int IntKind.i64), .ids [3, 16, 20, 56, 62, 63, 64, 71], .top [1000000]], [.only [1, 2, 3, 7, 9, 10, 19, 20, 21, 26, 27, 28], .pro 10 40 3 (Ty.int IntKind.i64), .ids [3, 9, 16, 20, 27, 40, 50, 51, 54, 55, 56, 62, 63, 64, 71], .top [1000001]], [.only [7, 63, 64, 65], .ids [3, 9, 16, 20, 27, 37, 38, 39, 40, 50, 51, 54, 55, 56, 62, 63, 64], .top [1000002]]]
noncomputable def hd38_0 (a0 : El T39) (a1 : List (El T70)) (a2 : Bool) (ps21 : Int) (ph56 : List (Int)) : St := { tm := slots (nat_lit 74) [(nat_lit 1, AV.row T70 a1), (nat_lit 2, AV.sc (Value.bool a2)), (nat_lit 3, AV.ptr (nat_lit 3) (nat_lit 0)), (nat_lit 7, AV.own (nat_lit 56)), (nat_lit 19, AV.row T54 a0.2), (nat_lit 20, AV.sc (Value.int IntKind.i64 (↑(List.length a0.2) : Int))), (nat_lit 21, AV.sc (Value.int IntKind.i64 ps21))], H := [(nat_lit 3, ABlk.box (nat_lit 39) (cellsOf T39 a0)), (nat_lit 56, ABlk.arr (nat_lit 3) (Ty.int IntKind.i64) ph56)] }
noncomputable def hd38_1 (a0 : El T39) (a1 : List (El T70)) (a2 : Bool) (ps21 : Int) (ps26 : List (Int)) (ps27 : Int) (ps28 : Int) (ph9 : El T54) (ph40 : List (Int)) (ph56 : List (Int)) : St := { tm := slots (nat_lit 74) [(nat_lit 1, AV.row T70 a1), (nat_lit 2, AV.sc (Value.bool a2)), (nat_lit 3, AV.ptr (nat_lit 3) (nat_lit 0)), (nat_lit 7, AV.own (nat_lit 56)), (nat_lit 9, AV.ptr (nat_lit 9) (nat_lit 0)), (nat_lit 10, AV.own (nat_lit 40)), (nat_lit 19, AV.row T54 a0.2), (nat_lit 20, AV.sc (Value.int IntKind.i64 (↑(List.length a0.2) : Int))), (nat_lit 21, AV.sc (Value.int IntKind.i64 ps21)), (nat_lit 26, AV.row (Ty.int IntKind.u32) ps26), (nat_lit 27, AV.sc (Value.int IntKind.i64 ps27)), (nat_lit 28, AV.sc (Value.int IntKind.i64 ps28))], H := [(nat_lit 3, ABlk.box (nat_lit 39) (cellsOf T39 a0)), (nat_lit 9, ABlk.box (nat_lit 54) (cellsOf T54 ph9)), (nat_lit 40, ABlk.arr (nat_lit 3) (Ty.int IntKind.i64) ph40), (nat_lit 56, ABlk.arr (nat_lit 3) (Ty.int IntKind.i64) ph56)] }
noncomputable def hd38_2 (a0 : El T39) (a1 : List (El T70)) (a2 : Bool) (ps65 : Int) (ph56 : List (Int)) : St := { tm := slots (nat_lit 74) [(nat_lit 7, AV.own (nat_lit 56)), (nat_lit 63, AV.own (nat_lit 63)), (nat_lit 64, AV.sc (Value.int IntKind.i64 (↑[(2 : Int), (1 : Int)].length : Int))), (nat_lit 65, AV.sc (Value.int IntKind.i64 ps65))], H := [(nat_lit 3, ABlk.box (nat_lit 39) (cellsOf T39 a0)), (nat_lit 56, ABlk.arr (nat_lit 3) (Ty.int IntKind.i64) ph56), (nat_lit 63, ABlk.arr (nat_lit 3) (Ty.int IntKind.i64) [(2 : Int), (1 : Int)])] }
noncomputable def b38_2 (F43 : (El T39) → Option (Int)) (F45 : (List (El T70)) → Int → Option (Int)) (F44 : Int → Int → Option (Int)) (F46 : (List (El (.int .i64))) → Option (Int)) (F47 : (List (El (.int .i64))) → Int → Option (Bool)) (K : Nat) (a0 : El T39) (a1 : List (El T70)) (a2 : Bool) (r2 : Int → (List (Int)) → Option (Int)) (ps65 : Int) (ph56 : List (Int)) : Option (Int) :=(if decide (ps65 < (↑[(2 : Int), (1 : Int)].length : Int)) = true then (if decide ((0 : Int) ≤ ps65 ∧ ps65 < (↑[(2 : Int), (1 : Int)].length : Int)) = true then 
    (Option.bind (F47 ph56 ([(2 : Int), (1 : Int)].getD ps65.toNat (zEl (Ty.int IntKind.i64)))) fun x7 => (if x7 = true then some ([(2 : Int), (1 : Int)].getD ps65.toNat (zEl (Ty.int IntKind.i64)))
     else r2 (IntKind.i64.wrap (ps65 + (1 : Int))) (ph56)))
   else none)
  else some ((3 : Int)))
noncomputable def L38_2 (F43 : (El T39) → Option (Int)) (F45 : (List (El T70)) → Int → Option (Int)) (F44 : Int → Int → Option (Int)) (F46 : (List (El (.int .i64))) → Option (Int)) (F47 : (List (El (.int .i64))) → Int → Option (Bool)) (K : Nat) (a0 : El T39) (a1 : List (El T70)) (a2 : Bool) : Nat → Int → (List (Int)) → Option (Int)
  | 0, _, _ => none
  | n + 1, ps65, ph56 => b38_2 F43 F45 F44 F46 F47 K a0 a1 a2 (L38_2 F43 F45 F44 F46 F47 K a0 a1 a2 n) ps65 ph56
noncomputable def b38_1 (F43 : (El T39) → Option (Int)) (F45 : (List (El T70)) → Int → Option (Int)) (F44 : Int → Int → Option (Int)) (F46 : (List (El (.int .i64))) → Option (Int)) (F47 : (List (El (.int .i64))) → Int → Option (Bool)) (K : Nat) (a0 : El T39) (a1 : List (El T70)) (a2 : Bool) (r0 : Int → (List (Int)) → Option (Int)) (r1 : Int → (List (Int)) → Int → Int → (El T54) → (List (Int)) → (List (Int)) → Option (Int)) (ps21 : Int) (ps26 : List (Int)) (ps27 : Int) (ps28 : Int) (ph9 : El T54) (ph40 : List (Int)) (ph56 : List (Int)) : Option (Int) :=(if decide (ps28 < ps27) = true then (if decide ((0 : Int) ≤ ps28 ∧ ps28 < (↑ps26.length : Int)) = true then 
    (Option.bind (F45 a1 (ps26.getD ps28.toNat (zEl (Ty.int IntKind.u32)))) fun x2 => 
     (Option.bind (F44 ph9.1 x2) fun x3 => (if decide ((ph40.length + [x3].length) * Try.prog.types[(3 : Nat)].bytes ≤ (140737488355328 : Nat)) = true then r1 (ps21) (ps26) (ps27) (IntKind.i64.wrap (ps28 + (1 : Int))) (ph9) (ph40 ++ [x3]) (ph56)
      else none)))
   else none)
  else (if (ph9.1 == (5 : Int)) = true then (if (!a2) = true then (if decide ((ph40.length + [(1 : Int)].length) * Try.prog.types[(3 : Nat)].bytes ≤ (140737488355328 : Nat)) = true then 
      (Option.bind (F46 (ph40 ++ [(1 : Int)])) fun x4 => (if decide ((ph56.length + [x4].length) * Try.prog.types[(3 : Nat)].bytes ≤ (140737488355328 : Nat)) = true then r0 (IntKind.i64.wrap (ps21 + (1 : Int))) (ph56 ++ [x4])
       else none))
     else none)
    else 
     (Option.bind (F46 ph40) fun x5 => (if decide ((ph56.length + [x5].length) * Try.prog.types[(3 : Nat)].bytes ≤ (140737488355328 : Nat)) = true then r0 (IntKind.i64.wrap (ps21 + (1 : Int))) (ph56 ++ [x5])
      else none)))
   else 
    (Option.bind (F46 ph40) fun x6 => (if decide ((ph56.length + [x6].length) * Try.prog.types[(3 : Nat)].bytes ≤ (140737488355328 : Nat)) = true then r0 (IntKind.i64.wrap (ps21 + (1 : Int))) (ph56 ++ [x6])
     else none))))
noncomputable def L38_1 (F43 : (El T39) → Option (Int)) (F45 : (List (El T70)) → Int → Option (Int)) (F44 : Int → Int → Option (Int)) (F46 : (List (El (.int .i64))) → Option (Int)) (F47 : (List (El (.int .i64))) → Int → Option (Bool)) (K : Nat) (a0 : El T39) (a1 : List (El T70)) (a2 : Bool) (r0 : Int → (List (Int)) → Option (Int)) : Nat → Int → (List (Int)) → Int → Int → (El T54) → (List (Int)) → (List (Int)) → Option (Int)
  | 0, _, _, _, _, _, _, _ => none
  | n + 1, ps21, ps26, ps27, ps28, ph9, ph40, ph56 => b38_1 F43 F45 F44 F46 F47 K a0 a1 a2 r0 (L38_1 F43 F45 F44 F46 F47 K a0 a1 a2 r0 n) ps21 ps26 ps27 ps28 ph9 ph40 ph56
noncomputable def b38_0 (F43 : (El T39) → Option (Int)) (F45 : (List (El T70)) → Int → Option (Int)) (F44 : Int → Int → Option (Int)) (F46 : (List (El (.int .i64))) → Option (Int)) (F47 : (List (El (.int .i64))) → Int → Option (Bool)) (K : Nat) (a0 : El T39) (a1 : List (El T70)) (a2 : Bool) (r0 : Int → (List (Int)) → Option (Int)) (l1 : Nat → Int → (List (Int)) → Int → Int → (El T54) → (List (Int)) → (List (Int)) → Option (Int)) (l2 : Nat → Int → (List (Int)) → Option (Int)) (ps21 : Int) (ph56 : List (Int)) : Option (Int) :=(if decide (ps21 < (↑(List.length a0.2) : Int)) = true then (if decide ((0 : Int) ≤ ps21 ∧ ps21 < (↑(List.length a0.2) : Int)) = true then l1 K (ps21) ((List.getD a0.2 ps21.toNat (zEl T54)).2) ((↑(List.length (List.getD a0.2 ps21.toNat (zEl T54)).2) : Int)) ((0 : Int)) (List.getD a0.2 ps21.toNat (zEl T54)) ([]) (ph56)
   else none)
  else (if (!a0.1) = true then 
    (Option.bind (F46 ph56) fun x1 => some (x1))
   else l2 K ((0 : Int)) (ph56)))
noncomputable def L38_0 (F43 : (El T39) → Option (Int)) (F45 : (List (El T70)) → Int → Option (Int)) (F44 : Int → Int → Option (Int)) (F46 : (List (El (.int .i64))) → Option (Int)) (F47 : (List (El (.int .i64))) → Int → Option (Bool)) (K : Nat) (a0 : El T39) (a1 : List (El T70)) (a2 : Bool) : Nat → Int → (List (Int)) → Option (Int)
  | 0, _, _ => none
  | n + 1, ps21, ph56 => b38_0 F43 F45 F44 F46 F47 K a0 a1 a2 (L38_0 F43 F45 F44 F46 F47 K a0 a1 a2 n) (L38_1 F43 F45 F44 F46 F47 K a0 a1 a2 (L38_0 F43 F45 F44 F46 F47 K a0 a1 a2 n)) (L38_2 F43 F45 F44 F46 F47 K a0 a1 a2) ps21 ph56
noncomputable def t38 (F43 : (El T39) → Option (Int)) (F45 : (List (El T70)) → Int → Option (Int)) (F44 : Int → Int → Option (Int)) (F46 : (List (El (.int .i64))) → Option (Int)) (F47 : (List (El (.int .i64))) → Int → Option (Bool)) (K : Nat) (a0 : El T39) (a1 : List (El T70)) (a2 : Bool) (l0 : Nat → Int → (List (Int)) → Option (Int)) : Option (Int) := 
 (Option.bind (F43 a0) fun x0 => (if (x0 != (0 : Int)) = true then some ((0 : Int))
  else l0 K ((0 : Int)) ([])))
noncomputable def G38 (F43 : (El T39) → Option (Int)) (F45 : (List (El T70)) → Int → Option (Int)) (F44 : Int → Int → Option (Int)) (F46 : (List (El (.int .i64))) → Option (Int)) (F47 : (List (El (.int .i64))) → Int → Option (Bool)) (K : Nat) (a0 : El T39) (a1 : List (El T70)) (a2 : Bool) : Option (Int) := t38 F43 F45 F44 F46 F47 K a0 a1 a2 (L38_0 F43 F45 F44 F46 F47 K a0 a1 a2)
theorem lp38_2 (F43 : (El T39) → Option (Int)) (F45 : (List (El T70)) → Int → Option (Int)) (F44 : Int → Int → Option (Int)) (F46 : (List (El (.int .i64))) → Option (Int)) (F47 : (List (El (.int .i64))) → Int → Option (Bool)) (K : Nat) (a0 : El T39) (a1 : List (El T70)) (a2 : Bool) : ∀ (n : Nat) (ps65 : Int) (ph56 : List (Int)), loopN Try.prog (tab38 F43 F45 F44 F46 F47) 0 K Try.f38 la38 dq38.k 2 [] n (hd38_2 a0 a1 a2 ps65 ph56) = L38_2 F43 F45 F44 F46 F47 K a0 a1 a2 n ps65 ph56
  | 0, _, _ => by kernel_rfl
  | n + 1, ps65, ph56 => by
    have h : loopN Try.prog (tab38 F43 F45 F44 F46 F47) 0 K Try.f38 la38 dq38.k 2 [] (n + 1) (hd38_2 a0 a1 a2 ps65 ph56) = b38_2 F43 F45 F44 F46 F47 K a0 a1 a2 (fun q0 q1 => loopN Try.prog (tab38 F43 F45 F44 F46 F47) 0 K Try.f38 la38 dq38.k 2 [] n (hd38_2 a0 a1 a2 q0 q1)) ps65 ph56 := by kernel_rfl
    rw [h]
    simp only [lp38_2 F43 F45 F44 F46 F47 K a0 a1 a2 n]
    rfl
theorem lp38_1 (F43 : (El T39) → Option (Int)) (F45 : (List (El T70)) → Int → Option (Int)) (F44 : Int → Int → Option (Int)) (F46 : (List (El (.int .i64))) → Option (Int)) (F47 : (List (El (.int .i64))) → Int → Option (Bool)) (K : Nat) (a0 : El T39) (a1 : List (El T70)) (a2 : Bool) : ∀ (m0 : Nat) (n : Nat) (ps21 : Int) (ps26 : List (Int)) (ps27 : Int) (ps28 : Int) (ph9 : El T54) (ph40 : List (Int)) (ph56 : List (Int)), loopN Try.prog (tab38 F43 F45 F44 F46 F47) 0 K Try.f38 la38 dq38.k 1 [m0] n (hd38_1 a0 a1 a2 ps21 ps26 ps27 ps28 ph9 ph40 ph56) = L38_1 F43 F45 F44 F46 F47 K a0 a1 a2 (fun q0 q1 => loopN Try.prog (tab38 F43 F45 F44 F46 F47) 0 K Try.f38 la38 dq38.k 0 [] m0 (hd38_0 a0 a1 a2 q0 q1)) n ps21 ps26 ps27 ps28 ph9 ph40 ph56
  | m0, 0, _, _, _, _, _, _, _ => by kernel_rfl
  | m0, n + 1, ps21, ps26, ps27, ps28, ph9, ph40, ph56 => by
    have h : loopN Try.prog (tab38 F43 F45 F44 F46 F47) 0 K Try.f38 la38 dq38.k 1 [m0] (n + 1) (hd38_1 a0 a1 a2 ps21 ps26 ps27 ps28 ph9 ph40 ph56) = b38_1 F43 F45 F44 F46 F47 K a0 a1 a2 (fun q0 q1 => loopN Try.prog (tab38 F43 F45 F44 F46 F47) 0 K Try.f38 la38 dq38.k 0 [] m0 (hd38_0 a0 a1 a2 q0 q1)) (fun q0 q1 q2 q3 q4 q5 q6 => loopN Try.prog (tab38 F43 F45 F44 F46 F47) 0 K Try.f38 la38 dq38.k 1 [m0] n (hd38_1 a0 a1 a2 q0 q1 q2 q3 q4 q5 q6)) ps21 ps26 ps27 ps28 ph9 ph40 ph56 := by kernel_rfl
    rw [h]
    simp only [lp38_1 F43 F45 F44 F46 F47 K a0 a1 a2 m0 n]
    rfl
theorem lp38_0 (F43 : (El T39) → Option (Int)) (F45 : (List (El T70)) → Int → Option (Int)) (F44 : Int → Int → Option (Int)) (F46 : (List (El (.int .i64))) → Option (Int)) (F47 : (List (El (.int .i64))) → Int → Option (Bool)) (K : Nat) (a0 : El T39) (a1 : List (El T70)) (a2 : Bool) : ∀ (n : Nat) (ps21 : Int) (ph56 : List (Int)), loopN Try.prog (tab38 F43 F45 F44 F46 F47) 0 K Try.f38 la38 dq38.k 0 [] n (hd38_0 a0 a1 a2 ps21 ph56) = L38_0 F43 F45 F44 F46 F47 K a0 a1 a2 n ps21 ph56
  | 0, _, _ => by kernel_rfl
  | n + 1, ps21, ph56 => by
    have h : loopN Try.prog (tab38 F43 F45 F44 F46 F47) 0 K Try.f38 la38 dq38.k 0 [] (n + 1) (hd38_0 a0 a1 a2 ps21 ph56) = b38_0 F43 F45 F44 F46 F47 K a0 a1 a2 (fun q0 q1 => loopN Try.prog (tab38 F43 F45 F44 F46 F47) 0 K Try.f38 la38 dq38.k 0 [] n (hd38_0 a0 a1 a2 q0 q1)) (fun k q0 q1 q2 q3 q4 q5 q6 => loopN Try.prog (tab38 F43 F45 F44 F46 F47) 0 K Try.f38 la38 dq38.k 1 [n] k (hd38_1 a0 a1 a2 q0 q1 q2 q3 q4 q5 q6)) (fun k q0 q1 => loopN Try.prog (tab38 F43 F45 F44 F46 F47) 0 K Try.f38 la38 dq38.k 2 [] k (hd38_2 a0 a1 a2 q0 q1)) ps21 ph56 := by kernel_rfl
    rw [h]
    simp only [lp38_0 F43 F45 F44 F46 F47 K a0 a1 a2 n, lp38_1 F43 F45 F44 F46 F47 K a0 a1 a2 n, lp38_2 F43 F45 F44 F46 F47 K a0 a1 a2]
    rfl
theorem ev38 (F43 : (El T39) → Option (Int)) (F45 : (List (El T70)) → Int → Option (Int)) (F44 : Int → Int → Option (Int)) (F46 : (List (El (.int .i64))) → Option (Int)) (F47 : (List (El (.int .i64))) → Int → Option (Bool)) (K : Nat) (a0 : El T39) (a1 : List (El T70)) (a2 : Bool) : evFun Try.prog (tab38 F43 F45 F44 F46 F47) 0 K Try.f38 la38 [.agg (cellsOf T39 a0), .row T70 a1, B a2] [] dq38.k = G38 F43 F45 F44 F46 F47 K a0 a1 a2 := by
  have h : evFun Try.prog (tab38 F43 F45 F44 F46 F47) 0 K Try.f38 la38 [.agg (cellsOf T39 a0), .row T70 a1, B a2] [] dq38.k = t38 F43 F45 F44 F46 F47 K a0 a1 a2 (fun k q0 q1 => loopN Try.prog (tab38 F43 F45 F44 F46 F47) 0 K Try.f38 la38 dq38.k 0 [] k (hd38_0 a0 a1 a2 q0 q1)) := by kernel_rfl
  rw [h]
  simp only [lp38_0 F43 F45 F44 F46 F47 K a0 a1 a2]
  rfl
noncomputable def F38 (K : Nat) (a0 : El T39) (a1 : List (El T70)) (a2 : Bool) : Option (Int) := G38 (F43 K) (F45 K) (F44 K) (F46 K) (F47 K) K a0 a1 a2
theorem cok38 (K : Nat) : CallOK Try.prog (tab38 (F43 K) (F45 K) (F44 K) (F46 K) (F47 K)) := (add_ok (add_ok (add_ok (add_ok (add_ok none_ok ent43 (ok43 K)) ent45 (ok45 K)) ent44 (ok44 K)) ent46 (ok46 K)) ent47 (ok47 K))
theorem ok38 (K : Nat) : RowOK Try.prog 38 (row ad38 dq38 fun p => F38 K p.1 p.2.1 p.2.2) := row_ok fun x r h => has_of (cok38 K) Try.func38 ((ev38 (F43 K) (F45 K) (F44 K) (F46 K) (F47 K) K x.1 x.2.1 x.2.2).trans h)
/-! ganger/gangerref08.Say -/
noncomputable def tab37 (F19 : (El T39) → Option (Int)) (F42 : (List (El T70)) → Int → Option (Int)) (F41 : Int → Int → Option (Int)) : Tab := (((Tab.none.add 19 (row ad19 dq19 fun p => F19 p)).add 42 (row ad42 dq42 fun p => F42 p.1 p.2)).add 41 (row ad41 dq41 fun p => F41 p.1 p.2))
noncomputable def la37 : List (List Tidy) := [[.only [1, 2, 3, 8, 9, 10, 11], .ids [3, 17], .top [1000000]], [.only [1, 2, 3, 8, 9, 10, 11, 12, 13, 14], .ids [3, 12, 17, 23], .top [1000001]]]
noncomputable def hd37_0 (a0 : El T39) (a1 : List (El T70)) (a2 : Bool) (ps8 : Int) (ps9 : Int) (ps10 : Int) (ps11 : Int) : St := { tm := slots (nat_lit 112) [(nat_lit 1, AV.row T70 a1), (nat_lit 2, AV.sc (Value.bool a2)), (nat_lit 3, AV.ptr (nat_lit 3) (nat_lit 0)), (nat_lit 8, AV.sc (Value.int IntKind.i64 ps8)), (nat_lit 9, AV.sc (Value.int IntKind.i64 ps9)), (nat_lit 10, AV.sc (Value.int IntKind.i64 ps10)), (nat_lit 11, AV.sc (Value.int IntKind.i64 ps11))], H := [(nat_lit 3, ABlk.box (nat_lit 39) (cellsOf T39 a0))] }
noncomputable def hd37_1 (a0 : El T39) (a1 : List (El T70)) (a2 : Bool) (ps8 : Int) (ps9 : Int) (ps10 : Int) (ps11 : Int) (ps13 : Int) (ps14 : Int) (ph12 : El T54) : St := { tm := slots (nat_lit 112) [(nat_lit 1, AV.row T70 a1), (nat_lit 2, AV.sc (Value.bool a2)), (nat_lit 3, AV.ptr (nat_lit 3) (nat_lit 0)), (nat_lit 8, AV.sc (Value.int IntKind.i64 ps8)), (nat_lit 9, AV.sc (Value.int IntKind.i64 ps9)), (nat_lit 10, AV.sc (Value.int IntKind.i64 ps10)), (nat_lit 11, AV.sc (Value.int IntKind.i64 ps11)), (nat_lit 12, AV.ptr (nat_lit 12) (nat_lit 0)), (nat_lit 13, AV.sc (Value.int IntKind.i64 ps13)), (nat_lit 14, AV.sc (Value.int IntKind.i64 ps14))], H := [(nat_lit 3, ABlk.box (nat_lit 39) (cellsOf T39 a0)), (nat_lit 12, ABlk.box (nat_lit 54) (cellsOf T54 ph12))] }
noncomputable def b37_1 (F19 : (El T39) → Option (Int)) (F42 : (List (El T70)) → Int → Option (Int)) (F41 : Int → Int → Option (Int)) (K : Nat) (a0 : El T39) (a1 : List (El T70)) (a2 : Bool) (r0 : Int → Int → Int → Int → Option (Int)) (r1 : Int → Int → Int → Int → Int → Int → (El T54) → Option (Int)) (ps8 : Int) (ps9 : Int) (ps10 : Int) (ps11 : Int) (ps13 : Int) (ps14 : Int) (ph12 : El T54) : Option (Int) :=(if decide (ps14 < (↑(List.length ph12.2) : Int)) = true then (if decide ((0 : Int) ≤ ps14 ∧ ps14 < (↑(List.length ph12.2) : Int)) = true then 
    (Option.bind (F42 a1 (List.getD ph12.2 ps14.toNat (zEl (Ty.int IntKind.u32)))) fun x1 => 
     (Option.bind (F41 ph12.1 x1) fun x2 => (if (x2 == (3 : Int)) = true then r1 (ps8) (ps9) (ps10) (ps11) (x2) (IntKind.i64.wrap (ps14 + (1 : Int))) (ph12)
      else (if (x2 == (1 : Int)) = true then (if (ps13 != (3 : Int)) = true then r1 (ps8) (ps9) (ps10) (ps11) (x2) (IntKind.i64.wrap (ps14 + (1 : Int))) (ph12)
        else r1 (ps8) (ps9) (ps10) (ps11) (ps13) (IntKind.i64.wrap (ps14 + (1 : Int))) (ph12))
       else r1 (ps8) (ps9) (ps10) (ps11) (ps13) (IntKind.i64.wrap (ps14 + (1 : Int))) (ph12)))))
   else none)
  else (if (ps13 == (1 : Int)) = true then r0 (ps8) (IntKind.i64.wrap (ps9 + (1 : Int))) (ps10) (IntKind.i64.wrap (ps11 + (1 : Int)))
   else (if (ps13 == (2 : Int)) = true then r0 (ps8) (ps9) (IntKind.i64.wrap (ps10 + (1 : Int))) (IntKind.i64.wrap (ps11 + (1 : Int)))
    else r0 (IntKind.i64.wrap (ps8 + (1 : Int))) (ps9) (ps10) (IntKind.i64.wrap (ps11 + (1 : Int))))))
noncomputable def L37_1 (F19 : (El T39) → Option (Int)) (F42 : (List (El T70)) → Int → Option (Int)) (F41 : Int → Int → Option (Int)) (K : Nat) (a0 : El T39) (a1 : List (El T70)) (a2 : Bool) (r0 : Int → Int → Int → Int → Option (Int)) : Nat → Int → Int → Int → Int → Int → Int → (El T54) → Option (Int)
  | 0, _, _, _, _, _, _, _ => none
  | n + 1, ps8, ps9, ps10, ps11, ps13, ps14, ph12 => b37_1 F19 F42 F41 K a0 a1 a2 r0 (L37_1 F19 F42 F41 K a0 a1 a2 r0 n) ps8 ps9 ps10 ps11 ps13 ps14 ph12
noncomputable def b37_0 (F19 : (El T39) → Option (Int)) (F42 : (List (El T70)) → Int → Option (Int)) (F41 : Int → Int → Option (Int)) (K : Nat) (a0 : El T39) (a1 : List (El T70)) (a2 : Bool) (r0 : Int → Int → Int → Int → Option (Int)) (l1 : Nat → Int → Int → Int → Int → Int → Int → (El T54) → Option (Int)) (ps8 : Int) (ps9 : Int) (ps10 : Int) (ps11 : Int) : Option (Int) :=(if decide (ps11 < (↑(List.length a0.2) : Int)) = true then (if decide ((0 : Int) ≤ ps11 ∧ ps11 < (↑(List.length a0.2) : Int)) = true then (if ((List.getD a0.2 ps11.toNat (zEl T54)).1 == (5 : Int)) = true then (if (!a2) = true then l1 K (ps8) (ps9) (ps10) (ps11) ((1 : Int)) ((0 : Int)) (List.getD a0.2 ps11.toNat (zEl T54))
     else l1 K (ps8) (ps9) (ps10) (ps11) ((2 : Int)) ((0 : Int)) (List.getD a0.2 ps11.toNat (zEl T54)))
    else l1 K (ps8) (ps9) (ps10) (ps11) ((2 : Int)) ((0 : Int)) (List.getD a0.2 ps11.toNat (zEl T54)))
   else none)
  else (if a0.1 = true then (if decide (ps10 > (0 : Int)) = true then some ((2 : Int))
    else (if (!a0.1) = true then (if (ps8 == (0 : Int)) = true then (if (ps9 == (0 : Int)) = true then some ((2 : Int))
       else (if a0.1 = true then (if decide (ps9 > (0 : Int)) = true then some ((1 : Int))
         else (if (!a0.1) = true then (if (ps8 == (0 : Int)) = true then some ((1 : Int))
           else some ((3 : Int)))
          else some ((3 : Int))))
        else (if (!a0.1) = true then (if (ps8 == (0 : Int)) = true then some ((1 : Int))
          else some ((3 : Int)))
         else some ((3 : Int)))))
      else (if a0.1 = true then (if decide (ps9 > (0 : Int)) = true then some ((1 : Int))
        else (if (!a0.1) = true then (if (ps8 == (0 : Int)) = true then some ((1 : Int))
          else some ((3 : Int)))
         else some ((3 : Int))))
       else (if (!a0.1) = true then (if (ps8 == (0 : Int)) = true then some ((1 : Int))
         else some ((3 : Int)))
        else some ((3 : Int)))))
     else (if a0.1 = true then (if decide (ps9 > (0 : Int)) = true then some ((1 : Int))
       else (if (!a0.1) = true then (if (ps8 == (0 : Int)) = true then some ((1 : Int))
         else some ((3 : Int)))
        else some ((3 : Int))))
      else (if (!a0.1) = true then (if (ps8 == (0 : Int)) = true then some ((1 : Int))
        else some ((3 : Int)))
       else some ((3 : Int))))))
   else (if (!a0.1) = true then (if (ps8 == (0 : Int)) = true then (if (ps9 == (0 : Int)) = true then some ((2 : Int))
      else (if a0.1 = true then (if decide (ps9 > (0 : Int)) = true then some ((1 : Int))
        else (if (!a0.1) = true then (if (ps8 == (0 : Int)) = true then some ((1 : Int))
          else some ((3 : Int)))
         else some ((3 : Int))))
       else (if (!a0.1) = true then (if (ps8 == (0 : Int)) = true then some ((1 : Int))
         else some ((3 : Int)))
        else some ((3 : Int)))))
     else (if a0.1 = true then (if decide (ps9 > (0 : Int)) = true then some ((1 : Int))
       else (if (!a0.1) = true then (if (ps8 == (0 : Int)) = true then some ((1 : Int))
         else some ((3 : Int)))
        else some ((3 : Int))))
      else (if (!a0.1) = true then (if (ps8 == (0 : Int)) = true then some ((1 : Int))
        else some ((3 : Int)))
       else some ((3 : Int)))))
    else (if a0.1 = true then (if decide (ps9 > (0 : Int)) = true then some ((1 : Int))
      else (if (!a0.1) = true then (if (ps8 == (0 : Int)) = true then some ((1 : Int))
        else some ((3 : Int)))
       else some ((3 : Int))))
     else (if (!a0.1) = true then (if (ps8 == (0 : Int)) = true then some ((1 : Int))
       else some ((3 : Int)))
      else some ((3 : Int)))))))
noncomputable def L37_0 (F19 : (El T39) → Option (Int)) (F42 : (List (El T70)) → Int → Option (Int)) (F41 : Int → Int → Option (Int)) (K : Nat) (a0 : El T39) (a1 : List (El T70)) (a2 : Bool) : Nat → Int → Int → Int → Int → Option (Int)
  | 0, _, _, _, _ => none
  | n + 1, ps8, ps9, ps10, ps11 => b37_0 F19 F42 F41 K a0 a1 a2 (L37_0 F19 F42 F41 K a0 a1 a2 n) (L37_1 F19 F42 F41 K a0 a1 a2 (L37_0 F19 F42 F41 K a0 a1 a2 n)) ps8 ps9 ps10 ps11
noncomputable def t37 (F19 : (El T39) → Option (Int)) (F42 : (List (El T70)) → Int → Option (Int)) (F41 : Int → Int → Option (Int)) (K : Nat) (a0 : El T39) (a1 : List (El T70)) (a2 : Bool) (l0 : Nat → Int → Int → Int → Int → Option (Int)) : Option (Int) := 
 (Option.bind (F19 a0) fun x0 => (if (x0 != (0 : Int)) = true then some ((0 : Int))
  else l0 K ((0 : Int)) ((0 : Int)) ((0 : Int)) ((0 : Int))))
noncomputable def G37 (F19 : (El T39) → Option (Int)) (F42 : (List (El T70)) → Int → Option (Int)) (F41 : Int → Int → Option (Int)) (K : Nat) (a0 : El T39) (a1 : List (El T70)) (a2 : Bool) : Option (Int) := t37 F19 F42 F41 K a0 a1 a2 (L37_0 F19 F42 F41 K a0 a1 a2)
theorem lp37_1 (F19 : (El T39) → Option (Int)) (F42 : (List (El T70)) → Int → Option (Int)) (F41 : Int → Int → Option (Int)) (K : Nat) (a0 : El T39) (a1 : List (El T70)) (a2 : Bool) : ∀ (m0 : Nat) (n : Nat) (ps8 : Int) (ps9 : Int) (ps10 : Int) (ps11 : Int) (ps13 : Int) (ps14 : Int) (ph12 : El T54), loopN Try.prog (tab37 F19 F42 F41) 0 K Try.f37 la37 dq37.k 1 [m0] n (hd37_1 a0 a1 a2 ps8 ps9 ps10 ps11 ps13 ps14 ph12) = L37_1 F19 F42 F41 K a0 a1 a2 (fun q0 q1 q2 q3 => loopN Try.prog (tab37 F19 F42 F41) 0 K Try.f37 la37 dq37.k 0 [] m0 (hd37_0 a0 a1 a2 q0 q1 q2 q3)) n ps8 ps9 ps10 ps11 ps13 ps14 ph12
  | m0, 0, _, _, _, _, _, _, _ => by kernel_rfl
  | m0, n + 1, ps8, ps9, ps10, ps11, ps13, ps14, ph12 => by
    have h : loopN Try.prog (tab37 F19 F42 F41) 0 K Try.f37 la37 dq37.k 1 [m0] (n + 1) (hd37_1 a0 a1 a2 ps8 ps9 ps10 ps11 ps13 ps14 ph12) = b37_1 F19 F42 F41 K a0 a1 a2 (fun q0 q1 q2 q3 => loopN Try.prog (tab37 F19 F42 F41) 0 K Try.f37 la37 dq37.k 0 [] m0 (hd37_0 a0 a1 a2 q0 q1 q2 q3)) (fun q0 q1 q2 q3 q4 q5 q6 => loopN Try.prog (tab37 F19 F42 F41) 0 K Try.f37 la37 dq37.k 1 [m0] n (hd37_1 a0 a1 a2 q0 q1 q2 q3 q4 q5 q6)) ps8 ps9 ps10 ps11 ps13 ps14 ph12 := by kernel_rfl
    rw [h]
    simp only [lp37_1 F19 F42 F41 K a0 a1 a2 m0 n]
    rfl
theorem lp37_0 (F19 : (El T39) → Option (Int)) (F42 : (List (El T70)) → Int → Option (Int)) (F41 : Int → Int → Option (Int)) (K : Nat) (a0 : El T39) (a1 : List (El T70)) (a2 : Bool) : ∀ (n : Nat) (ps8 : Int) (ps9 : Int) (ps10 : Int) (ps11 : Int), loopN Try.prog (tab37 F19 F42 F41) 0 K Try.f37 la37 dq37.k 0 [] n (hd37_0 a0 a1 a2 ps8 ps9 ps10 ps11) = L37_0 F19 F42 F41 K a0 a1 a2 n ps8 ps9 ps10 ps11
  | 0, _, _, _, _ => by kernel_rfl
  | n + 1, ps8, ps9, ps10, ps11 => by
    have h : loopN Try.prog (tab37 F19 F42 F41) 0 K Try.f37 la37 dq37.k 0 [] (n + 1) (hd37_0 a0 a1 a2 ps8 ps9 ps10 ps11) = b37_0 F19 F42 F41 K a0 a1 a2 (fun q0 q1 q2 q3 => loopN Try.prog (tab37 F19 F42 F41) 0 K Try.f37 la37 dq37.k 0 [] n (hd37_0 a0 a1 a2 q0 q1 q2 q3)) (fun k q0 q1 q2 q3 q4 q5 q6 => loopN Try.prog (tab37 F19 F42 F41) 0 K Try.f37 la37 dq37.k 1 [n] k (hd37_1 a0 a1 a2 q0 q1 q2 q3 q4 q5 q6)) ps8 ps9 ps10 ps11 := by kernel_rfl
    rw [h]
    simp only [lp37_0 F19 F42 F41 K a0 a1 a2 n, lp37_1 F19 F42 F41 K a0 a1 a2 n]
    rfl
theorem ev37 (F19 : (El T39) → Option (Int)) (F42 : (List (El T70)) → Int → Option (Int)) (F41 : Int → Int → Option (Int)) (K : Nat) (a0 : El T39) (a1 : List (El T70)) (a2 : Bool) : evFun Try.prog (tab37 F19 F42 F41) 0 K Try.f37 la37 [.agg (cellsOf T39 a0), .row T70 a1, B a2] [] dq37.k = G37 F19 F42 F41 K a0 a1 a2 := by
  have h : evFun Try.prog (tab37 F19 F42 F41) 0 K Try.f37 la37 [.agg (cellsOf T39 a0), .row T70 a1, B a2] [] dq37.k = t37 F19 F42 F41 K a0 a1 a2 (fun k q0 q1 q2 q3 => loopN Try.prog (tab37 F19 F42 F41) 0 K Try.f37 la37 dq37.k 0 [] k (hd37_0 a0 a1 a2 q0 q1 q2 q3)) := by kernel_rfl
  rw [h]
  simp only [lp37_0 F19 F42 F41 K a0 a1 a2]
  rfl
noncomputable def F37 (K : Nat) (a0 : El T39) (a1 : List (El T70)) (a2 : Bool) : Option (Int) := G37 (F19 K) (F42 K) (F41 K) K a0 a1 a2
theorem cok37 (K : Nat) : CallOK Try.prog (tab37 (F19 K) (F42 K) (F41 K)) := (add_ok (add_ok (add_ok none_ok ent19 (ok19 K)) ent42 (ok42 K)) ent41 (ok41 K))
theorem ok37 (K : Nat) : RowOK Try.prog 37 (row ad37 dq37 fun p => F37 K p.1 p.2.1 p.2.2) := row_ok fun x r h => has_of (cok37 K) Try.func37 ((ev37 (F19 K) (F42 K) (F41 K) K x.1 x.2.1 x.2.2).trans h)
end Go.Proofs.YthebmlpohkfhbaaE
