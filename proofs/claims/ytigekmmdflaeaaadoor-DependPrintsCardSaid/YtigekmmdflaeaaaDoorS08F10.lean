import Derived.Test.YtigekmmdflaeaaaDoorS08W49
set_option linter.all false
namespace Go.Proofs.YtigekmmdflaeaaaDoorE
open Go Go.Proofs
set_option maxRecDepth 100000
set_option linter.unusedVariables false
variable {D : Cx}
/-! slices.Sort[[]uint32,uint32] -/
noncomputable def tab31 (F50 : Int → Option (Int)) (F49 : Int → Int → Int → (List Int) → Option (Unit × List Int)) : Tab := ((Tab.none.add 50 (row ad50 dq50 fun p => F50 p)).addG 49 (rowG (gad ag49 ob49) gq49 fun p => F49 p.1.1 p.1.2.1 p.1.2.2.1 p.2))
noncomputable def t31 (F50 : Int → Option (Int)) (F49 : Int → Int → Int → (List Int) → Option (Unit × List Int)) (K : Nat) (o0 : List Int) : Option (Unit × List Int) := 
 (Option.bind (F50 (IntKind.u64.wrap (↑o0.length : Int))) fun x0 => 
  (Option.bind (F49 (0 : Int) (↑o0.length : Int) x0 o0) fun x1 => some (((), x1.2))))
noncomputable def G31 (F50 : Int → Option (Int)) (F49 : Int → Int → Int → (List Int) → Option (Unit × List Int)) (K : Nat) (o0 : List Int) : Option (Unit × List Int) := t31 F50 F49 K o0
theorem ev31 (F50 : Int → Option (Int)) (F49 : Int → Int → Int → (List Int) → Option (Unit × List Int)) (K : Nat) (o0 : List Int) : evFun Tryd.prog (tab31 F50 F49) 0 K Tryd.f31 [] [.own 2000000] (hpB ob31 o0) gq31.k = G31 F50 F49 K o0 := by
  kernel_rfl
noncomputable def F31 (K : Nat) (o0 : List Int) : Option (Unit × List Int) := G31 (F50 K) (F49 K) K o0
theorem cok31 (K : Nat) : CallOK D Tryd.prog (tab31 (F50 K) (F49 K)) := (addG_ok (add_ok none_ok ent50 (ok50 K)) ent49 (ok49 K))
theorem ok31 (K : Nat) : RowG D Tryd.prog 31 (rowG (gad ag31 ob31) gq31 fun p => F31 K p.2) := rowG_ok fun x r h => ghas_of (cok31 K) Tryd.func31 ((ev31 (F50 K) (F49 K) K x.2).trans h)
end Go.Proofs.YtigekmmdflaeaaaDoorE
