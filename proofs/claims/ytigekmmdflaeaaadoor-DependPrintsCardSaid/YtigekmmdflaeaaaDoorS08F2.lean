import Derived.Test.YtigekmmdflaeaaaDoorS08W89
set_option linter.all false
namespace Go.Proofs.YtigekmmdflaeaaaDoorE
open Go Go.Proofs
set_option maxRecDepth 100000
set_option linter.unusedVariables false
variable {D : Cx}
/-! internal/stringslite.Index -/
noncomputable def tab74 (F89 : ByteArray → Int → Option (Int)) : Tab := (Tab.none.add 89 (row ad89 dq89 fun p => F89 p.1 p.2))
noncomputable def t74 (F89 : ByteArray → Int → Option (Int)) (K : Nat) (a0 : ByteArray) (a1 : ByteArray) : Option (Int) := (if ((↑a1.size : Int) == (0 : Int)) = true then some ((0 : Int))
 else (if (a1.toList == a0.toList) = true then some ((0 : Int))
  else (if ((↑a1.size : Int) == (1 : Int)) = true then (if decide ((0 : Int) ≤ (0 : Int) ∧ (0 : Int) < (↑a1.size : Int)) = true then 
     (Option.bind (F89 a0 (↑(a1.data.getD (Int.toNat (0 : Int)) (0 : UInt8)).toNat : Int)) fun x0 => some (x0))
    else none)
   else (if decide ((↑a1.size : Int) ≥ (↑a0.size : Int)) = true then some ((-1 : Int))
    else none))))
noncomputable def G74 (F89 : ByteArray → Int → Option (Int)) (K : Nat) (a0 : ByteArray) (a1 : ByteArray) : Option (Int) := t74 F89 K a0 a1
theorem ev74 (F89 : ByteArray → Int → Option (Int)) (K : Nat) (a0 : ByteArray) (a1 : ByteArray) : evFun Tryd.prog (tab74 F89) 0 K Tryd.f74 ([[.only [0, 1, 5, 6, 7, 8, 9, 10], .ids [15, 30, 34, 42, 47, 53], .top [1000000]]] : List (List Tidy)) [.sc (.string a0), .sc (.string a1)] [] dq74.k = G74 F89 K a0 a1 := by
  kernel_rfl
noncomputable def F74 (K : Nat) (a0 : ByteArray) (a1 : ByteArray) : Option (Int) := G74 (F89 K) K a0 a1
theorem cok74 (K : Nat) : CallOK D Tryd.prog (tab74 (F89 K)) := (add_ok none_ok ent89 (ok89 K))
theorem ok74 (K : Nat) : RowOK D Tryd.prog 74 (row ad74 dq74 fun p => F74 K p.1 p.2) := row_ok fun x r h => has_of (cok74 K) Tryd.func74 ((ev74 (F89 K) K x.1 x.2).trans h)
/-! strings.Index -/
noncomputable def tab51 (F74 : ByteArray → ByteArray → Option (Int)) : Tab := (Tab.none.add 74 (row ad74 dq74 fun p => F74 p.1 p.2))
noncomputable def t51 (F74 : ByteArray → ByteArray → Option (Int)) (K : Nat) (a0 : ByteArray) (a1 : ByteArray) : Option (Int) := 
 (Option.bind (F74 a0 a1) fun x0 => some (x0))
noncomputable def G51 (F74 : ByteArray → ByteArray → Option (Int)) (K : Nat) (a0 : ByteArray) (a1 : ByteArray) : Option (Int) := t51 F74 K a0 a1
theorem ev51 (F74 : ByteArray → ByteArray → Option (Int)) (K : Nat) (a0 : ByteArray) (a1 : ByteArray) : evFun Tryd.prog (tab51 F74) 0 K Tryd.f51 [] [.sc (.string a0), .sc (.string a1)] [] dq51.k = G51 F74 K a0 a1 := by
  kernel_rfl
noncomputable def F51 (K : Nat) (a0 : ByteArray) (a1 : ByteArray) : Option (Int) := G51 (F74 K) K a0 a1
theorem cok51 (K : Nat) : CallOK D Tryd.prog (tab51 (F74 K)) := (add_ok none_ok ent74 (ok74 K))
theorem ok51 (K : Nat) : RowOK D Tryd.prog 51 (row ad51 dq51 fun p => F51 K p.1 p.2) := row_ok fun x r h => has_of (cok51 K) Tryd.func51 ((ev51 (F74 K) K x.1 x.2).trans h)
/-! strings.Contains -/
noncomputable def tab33 (F51 : ByteArray → ByteArray → Option (Int)) : Tab := (Tab.none.add 51 (row ad51 dq51 fun p => F51 p.1 p.2))
noncomputable def t33 (F51 : ByteArray → ByteArray → Option (Int)) (K : Nat) (a0 : ByteArray) (a1 : ByteArray) : Option (Bool) := 
 (Option.bind (F51 a0 a1) fun x0 => some (decide (x0 ≥ (0 : Int))))
noncomputable def G33 (F51 : ByteArray → ByteArray → Option (Int)) (K : Nat) (a0 : ByteArray) (a1 : ByteArray) : Option (Bool) := t33 F51 K a0 a1
theorem ev33 (F51 : ByteArray → ByteArray → Option (Int)) (K : Nat) (a0 : ByteArray) (a1 : ByteArray) : evFun Tryd.prog (tab33 F51) 0 K Tryd.f33 [] [.sc (.string a0), .sc (.string a1)] [] dq33.k = G33 F51 K a0 a1 := by
  kernel_rfl
noncomputable def F33 (K : Nat) (a0 : ByteArray) (a1 : ByteArray) : Option (Bool) := G33 (F51 K) K a0 a1
theorem cok33 (K : Nat) : CallOK D Tryd.prog (tab33 (F51 K)) := (add_ok none_ok ent51 (ok51 K))
theorem ok33 (K : Nat) : RowOK D Tryd.prog 33 (row ad33 dq33 fun p => F33 K p.1 p.2) := row_ok fun x r h => has_of (cok33 K) Tryd.func33 ((ev33 (F51 K) K x.1 x.2).trans h)
end Go.Proofs.YtigekmmdflaeaaaDoorE
