import Derived.Test.YtigekmmdflaeaaaDoorS08W45
set_option linter.all false
namespace Go.Proofs.YtigekmmdflaeaaaDoorE
open Go Go.Proofs
set_option maxRecDepth 100000
set_option linter.unusedVariables false
variable {D : Cx}
/-! strconv.FormatUint -/
noncomputable def tab27 (F45 : Int → Int → Option (ByteArray)) : Tab := (Tab.none.add 45 (row ad45 dq45 fun p => F45 p.1 p.2))
noncomputable def t27 (F45 : Int → Int → Option (ByteArray)) (K : Nat) (a0 : Int) (a1 : Int) : Option (ByteArray) := 
 (Option.bind (F45 a0 a1) fun x0 => some (x0))
noncomputable def G27 (F45 : Int → Int → Option (ByteArray)) (K : Nat) (a0 : Int) (a1 : Int) : Option (ByteArray) := t27 F45 K a0 a1
theorem ev27 (F45 : Int → Int → Option (ByteArray)) (K : Nat) (a0 : Int) (a1 : Int) : evFun Tryd.prog (tab27 F45) 0 K Tryd.f27 [] [I .u64 a0, I .i64 a1] [] dq27.k = G27 F45 K a0 a1 := by
  kernel_rfl
noncomputable def F27 (K : Nat) (a0 : Int) (a1 : Int) : Option (ByteArray) := G27 (F45 K) K a0 a1
theorem cok27 (K : Nat) : CallOK cxT Tryd.prog (tab27 (F45 K)) := (add_ok none_ok ent45 (ok45 K))
theorem ok27 (K : Nat) : RowOK cxT Tryd.prog 27 (row ad27 dq27 fun p => F27 K p.1 p.2) := row_ok fun x r h => has_of (cok27 K) Tryd.func27 ((ev27 (F45 K) K x.1 x.2).trans h)
end Go.Proofs.YtigekmmdflaeaaaDoorE
