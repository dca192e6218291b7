import Derived.Test.YtiicginipjbloaaS04T
set_option linter.all false
namespace Go.Proofs.YtiicginipjbloaaE
open Go Go.Proofs
set_option maxRecDepth 100000
set_option linter.unusedVariables false
variable {D : Prop}
/-! cmp.isNaN[int] -/
noncomputable def tab66 : Tab := Tab.none
noncomputable def t66 (K : Nat) (a0 : Int) : Option (Bool) := some (a0 != a0)
noncomputable def G66 (K : Nat) (a0 : Int) : Option (Bool) := t66 K a0
theorem ev66 (K : Nat) (a0 : Int) : evFun Try.prog (tab66) 0 K Try.f66 [] [I .i64 a0] [] dq66.k = G66 K a0 := by
  kernel_rfl
noncomputable def F66 (K : Nat) (a0 : Int) : Option (Bool) := G66 K a0
theorem cok66 (K : Nat) : CallOK D Try.prog (tab66) := none_ok
theorem ok66 (K : Nat) : RowOK D Try.prog 66 (row ad66 dq66 fun p => F66 K p) := row_ok fun x r h => has_of (cok66 K) Try.func66 ((ev66 K x).trans h)
/-! cmp.Less[int] -/
noncomputable def tab71 (F66 : Int → Option (Bool)) : Tab := (Tab.none.add 66 (row ad66 dq66 fun p => F66 p))
noncomputable def t71 (F66 : Int → Option (Bool)) (K : Nat) (a0 : Int) (a1 : Int) : Option (Bool) := 
 (Option.bind (F66 a0) fun x0 => (if x0 = true then 
   (Option.bind (F66 a1) fun x1 => (if (!x1) = true then some (true)
    else some (decide (a0 < a1))))
  else some (decide (a0 < a1))))
noncomputable def G71 (F66 : Int → Option (Bool)) (K : Nat) (a0 : Int) (a1 : Int) : Option (Bool) := t71 F66 K a0 a1
theorem ev71 (F66 : Int → Option (Bool)) (K : Nat) (a0 : Int) (a1 : Int) : evFun Try.prog (tab71 F66) 0 K Try.f71 [] [I .i64 a0, I .i64 a1] [] dq71.k = G71 F66 K a0 a1 := by
  kernel_rfl
noncomputable def F71 (K : Nat) (a0 : Int) (a1 : Int) : Option (Bool) := G71 (F66 K) K a0 a1
theorem cok71 (K : Nat) : CallOK D Try.prog (tab71 (F66 K)) := (add_ok none_ok ent66 (ok66 K))
theorem ok71 (K : Nat) : RowOK D Try.prog 71 (row ad71 dq71 fun p => F71 K p.1 p.2) := row_ok fun x r h => has_of (cok71 K) Try.func71 ((ev71 (F66 K) K x.1 x.2).trans h)
/-! slices.isNaN[int] -/
noncomputable def tab72 : Tab := Tab.none
noncomputable def t72 (K : Nat) (a0 : Int) : Option (Bool) := some (a0 != a0)
noncomputable def G72 (K : Nat) (a0 : Int) : Option (Bool) := t72 K a0
theorem ev72 (K : Nat) (a0 : Int) : evFun Try.prog (tab72) 0 K Try.f72 [] [I .i64 a0] [] dq72.k = G72 K a0 := by
  kernel_rfl
noncomputable def F72 (K : Nat) (a0 : Int) : Option (Bool) := G72 K a0
theorem cok72 (K : Nat) : CallOK D Try.prog (tab72) := none_ok
theorem ok72 (K : Nat) : RowOK D Try.prog 72 (row ad72 dq72 fun p => F72 K p) := row_ok fun x r h => has_of (cok72 K) Try.func72 ((ev72 K x).trans h)
/-! slices.BinarySearch[[]int,int] -/
noncomputable def tab50 (F71 : Int → Int → Option (Bool)) (F72 : Int → Option (Bool)) : Tab := ((Tab.none.add 71 (row ad71 dq71 fun p => F71 p.1 p.2)).add 72 (row ad72 dq72 fun p => F72 p))
noncomputable def la50 : List (List Tidy) := [[.only [0, 1, 6, 7, 8], .ids [11, 47, 50], .top [1000000]]]
noncomputable def hd50_0 (a0 : List (El (.int .i64))) (a1 : Int) (ps7 : Int) (ps8 : Int) : St := { tm := slots (nat_lit 54) [(nat_lit 0, AV.row (Ty.int IntKind.i64) a0), (nat_lit 1, AV.sc (Value.int IntKind.i64 a1)), (nat_lit 6, AV.sc (Value.int IntKind.i64 (↑a0.length : Int))), (nat_lit 7, AV.sc (Value.int IntKind.i64 ps7)), (nat_lit 8, AV.sc (Value.int IntKind.i64 ps8))], H := [] }
noncomputable def b50_0 (F71 : Int → Int → Option (Bool)) (F72 : Int → Option (Bool)) (K : Nat) (a0 : List (El (.int .i64))) (a1 : Int) (r0 : Int → Int → Option (Int × Bool)) (ps7 : Int) (ps8 : Int) : Option (Int × Bool) :=(if decide (ps7 < ps8) = true then (if decide ((0 : Int) ≤ IntKind.i64.wrap ((IntKind.u64.wrap (IntKind.i64.wrap (ps7 + ps8))).fdiv ((2 : Int) ^ min (Int.toNat (1 : Int)) IntKind.u64.bits)) ∧ IntKind.i64.wrap ((IntKind.u64.wrap (IntKind.i64.wrap (ps7 + ps8))).fdiv ((2 : Int) ^ min (Int.toNat (1 : Int)) IntKind.u64.bits)) < (↑a0.length : Int)) = true then 
    (Option.bind (F71 (a0.getD (IntKind.i64.wrap ((IntKind.u64.wrap (IntKind.i64.wrap (ps7 + ps8))).fdiv ((2 : Int) ^ min (Int.toNat (1 : Int)) IntKind.u64.bits))).toNat (zEl (Ty.int IntKind.i64))) a1) fun x0 => (if x0 = true then r0 (IntKind.i64.wrap (IntKind.i64.wrap ((IntKind.u64.wrap (IntKind.i64.wrap (ps7 + ps8))).fdiv ((2 : Int) ^ min (Int.toNat (1 : Int)) IntKind.u64.bits)) + (1 : Int))) (ps8)
     else r0 (ps7) (IntKind.i64.wrap ((IntKind.u64.wrap (IntKind.i64.wrap (ps7 + ps8))).fdiv ((2 : Int) ^ min (Int.toNat (1 : Int)) IntKind.u64.bits)))))
   else none)
  else (if decide (ps7 < (↑a0.length : Int)) = true then (if decide ((0 : Int) ≤ ps7 ∧ ps7 < (↑a0.length : Int)) = true then (if (a0.getD ps7.toNat (zEl (Ty.int IntKind.i64)) == a1) = true then some ((ps7, true))
     else (if decide ((0 : Int) ≤ ps7 ∧ ps7 < (↑a0.length : Int)) = true then 
       (Option.bind (F72 (a0.getD ps7.toNat (zEl (Ty.int IntKind.i64)))) fun x1 => (if x1 = true then 
         (Option.bind (F72 a1) fun x2 => some ((ps7, x2)))
        else some ((ps7, false))))
      else none))
    else none)
   else some ((ps7, false))))
noncomputable def L50_0 (F71 : Int → Int → Option (Bool)) (F72 : Int → Option (Bool)) (K : Nat) (a0 : List (El (.int .i64))) (a1 : Int) : Nat → Int → Int → Option (Int × Bool)
  | 0, _, _ => none
  | n + 1, ps7, ps8 => b50_0 F71 F72 K a0 a1 (L50_0 F71 F72 K a0 a1 n) ps7 ps8
noncomputable def t50 (F71 : Int → Int → Option (Bool)) (F72 : Int → Option (Bool)) (K : Nat) (a0 : List (El (.int .i64))) (a1 : Int) (l0 : Nat → Int → Int → Option (Int × Bool)) : Option (Int × Bool) := l0 K ((0 : Int)) ((↑a0.length : Int))
noncomputable def G50 (F71 : Int → Int → Option (Bool)) (F72 : Int → Option (Bool)) (K : Nat) (a0 : List (El (.int .i64))) (a1 : Int) : Option (Int × Bool) := t50 F71 F72 K a0 a1 (L50_0 F71 F72 K a0 a1)
theorem lp50_0 (F71 : Int → Int → Option (Bool)) (F72 : Int → Option (Bool)) (K : Nat) (a0 : List (El (.int .i64))) (a1 : Int) : ∀ (n : Nat) (ps7 : Int) (ps8 : Int), loopN Try.prog (tab50 F71 F72) 0 K Try.f50 la50 dq50.k 0 [] n (hd50_0 a0 a1 ps7 ps8) = L50_0 F71 F72 K a0 a1 n ps7 ps8
  | 0, _, _ => by kernel_rfl
  | n + 1, ps7, ps8 => by
    have h : loopN Try.prog (tab50 F71 F72) 0 K Try.f50 la50 dq50.k 0 [] (n + 1) (hd50_0 a0 a1 ps7 ps8) = b50_0 F71 F72 K a0 a1 (fun q0 q1 => loopN Try.prog (tab50 F71 F72) 0 K Try.f50 la50 dq50.k 0 [] n (hd50_0 a0 a1 q0 q1)) ps7 ps8 := by kernel_rfl
    rw [h]
    simp only [lp50_0 F71 F72 K a0 a1 n]
    rfl
theorem ev50 (F71 : Int → Int → Option (Bool)) (F72 : Int → Option (Bool)) (K : Nat) (a0 : List (El (.int .i64))) (a1 : Int) : evFun Try.prog (tab50 F71 F72) 0 K Try.f50 la50 [.row (.int .i64) a0, I .i64 a1] [] dq50.k = G50 F71 F72 K a0 a1 := by
  have h : evFun Try.prog (tab50 F71 F72) 0 K Try.f50 la50 [.row (.int .i64) a0, I .i64 a1] [] dq50.k = t50 F71 F72 K a0 a1 (fun k q0 q1 => loopN Try.prog (tab50 F71 F72) 0 K Try.f50 la50 dq50.k 0 [] k (hd50_0 a0 a1 q0 q1)) := by kernel_rfl
  rw [h]
  simp only [lp50_0 F71 F72 K a0 a1]
  rfl
noncomputable def F50 (K : Nat) (a0 : List (El (.int .i64))) (a1 : Int) : Option (Int × Bool) := G50 (F71 K) (F72 K) K a0 a1
theorem cok50 (K : Nat) : CallOK D Try.prog (tab50 (F71 K) (F72 K)) := (add_ok (add_ok none_ok ent71 (ok71 K)) ent72 (ok72 K))
theorem ok50 (K : Nat) : RowOK D Try.prog 50 (row ad50 dq50 fun p => F50 K p.1 p.2) := row_ok fun x r h => has_of (cok50 K) Try.func50 ((ev50 (F71 K) (F72 K) K x.1 x.2).trans h)
end Go.Proofs.YtiicginipjbloaaE
