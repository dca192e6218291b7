import Derived.Test.YtigekmmdflaeaaaDoorS08T
set_option linter.all false
namespace Go.Proofs.YtigekmmdflaeaaaDoorE
open Go Go.Proofs
set_option maxRecDepth 100000
set_option linter.unusedVariables false
variable {D : Cx}
/-! ganger/gangerlaw08.many -/
noncomputable def tab10 : Tab := Tab.none
noncomputable def la10 : List (List Tidy) := [[.only [2, 5, 6], .ids [2, 9, 11], .top [1000000]]]
noncomputable def hd10_0 (a0 : El T24) (a1 : List (El T54)) (ps5 : Int) (ps6 : Int) : St := { tm := slots (nat_lit 36) [(nat_lit 2, AV.ptr (nat_lit 2) (nat_lit 0)), (nat_lit 5, AV.sc (Value.int IntKind.i64 ps5)), (nat_lit 6, AV.sc (Value.int IntKind.i64 ps6))], H := [(nat_lit 2, ABlk.box (nat_lit 24) (cellsOf T24 a0))] }
noncomputable def b10_0 (K : Nat) (a0 : El T24) (a1 : List (El T54)) (r0 : Int → Int → Option (Bool)) (ps5 : Int) (ps6 : Int) : Option (Bool) :=(if decide (ps6 < (↑(List.length a0.2) : Int)) = true then (if decide (ps5 ≤ (1000 : Int)) = true then (if decide ((0 : Int) ≤ ps6 ∧ ps6 < (↑(List.length a0.2) : Int)) = true then r0 (IntKind.i64.wrap (ps5 + if (1000 : Int) < (↑(List.length (List.getD a0.2 ps6.toNat (zEl T46)).2) : Int) then (1000 : Int) else (↑(List.length (List.getD a0.2 ps6.toNat (zEl T46)).2) : Int))) (IntKind.i64.wrap (ps6 + (1 : Int)))
    else none)
   else some (decide (ps5 > (1000 : Int))))
  else some (decide (ps5 > (1000 : Int))))
noncomputable def L10_0 (K : Nat) (a0 : El T24) (a1 : List (El T54)) : Nat → Int → Int → Option (Bool)
  | 0, _, _ => none
  | n + 1, ps5, ps6 => b10_0 K a0 a1 (L10_0 K a0 a1 n) ps5 ps6
noncomputable def t10 (K : Nat) (a0 : El T24) (a1 : List (El T54)) (l0 : Nat → Int → Int → Option (Bool)) : Option (Bool) := l0 K (IntKind.i64.wrap ((↑(List.length a0.2) : Int) + (↑a1.length : Int))) ((0 : Int))
noncomputable def G10 (K : Nat) (a0 : El T24) (a1 : List (El T54)) : Option (Bool) := t10 K a0 a1 (L10_0 K a0 a1)
theorem lp10_0 (K : Nat) (a0 : El T24) (a1 : List (El T54)) : ∀ (n : Nat) (ps5 : Int) (ps6 : Int), loopN Tryd.prog (tab10) 0 K Tryd.f10 la10 dq10.k 0 [] n (hd10_0 a0 a1 ps5 ps6) = L10_0 K a0 a1 n ps5 ps6
  | 0, _, _ => by kernel_rfl
  | n + 1, ps5, ps6 => by
    have h : loopN Tryd.prog (tab10) 0 K Tryd.f10 la10 dq10.k 0 [] (n + 1) (hd10_0 a0 a1 ps5 ps6) = b10_0 K a0 a1 (fun q0 q1 => loopN Tryd.prog (tab10) 0 K Tryd.f10 la10 dq10.k 0 [] n (hd10_0 a0 a1 q0 q1)) ps5 ps6 := by kernel_rfl
    rw [h]
    simp only [lp10_0 K a0 a1 n]
    rfl
theorem ev10 (K : Nat) (a0 : El T24) (a1 : List (El T54)) : evFun Tryd.prog (tab10) 0 K Tryd.f10 la10 [.agg (cellsOf T24 a0), .row T54 a1] [] dq10.k = G10 K a0 a1 := by
  have h : evFun Tryd.prog (tab10) 0 K Tryd.f10 la10 [.agg (cellsOf T24 a0), .row T54 a1] [] dq10.k = t10 K a0 a1 (fun k q0 q1 => loopN Tryd.prog (tab10) 0 K Tryd.f10 la10 dq10.k 0 [] k (hd10_0 a0 a1 q0 q1)) := by kernel_rfl
  rw [h]
  simp only [lp10_0 K a0 a1]
  rfl
noncomputable def F10 (K : Nat) (a0 : El T24) (a1 : List (El T54)) : Option (Bool) := G10 K a0 a1
theorem cok10 (K : Nat) : CallOK D Tryd.prog (tab10) := none_ok
theorem ok10 (K : Nat) : RowOK D Tryd.prog 10 (row ad10 dq10 fun p => F10 K p.1 p.2) := row_ok fun x r h => has_of (cok10 K) Tryd.func10 ((ev10 K x.1 x.2).trans h)
end Go.Proofs.YtigekmmdflaeaaaDoorE
