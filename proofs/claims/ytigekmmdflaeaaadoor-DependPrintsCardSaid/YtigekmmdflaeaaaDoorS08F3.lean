import Derived.Test.YtigekmmdflaeaaaDoorS08W76
set_option linter.all false
namespace Go.Proofs.YtigekmmdflaeaaaDoorE
open Go Go.Proofs
set_option maxRecDepth 100000
set_option linter.unusedVariables false
variable {D : Cx}
/-! strings.genSplit -/
noncomputable def tab52 (F76 : ByteArray → ByteArray → Option (Int)) (F51 : ByteArray → ByteArray → Option (Int)) : Tab := ((Tab.none.add 76 (row ad76 dq76 fun p => F76 p.1 p.2)).add 51 (row ad51 dq51 fun p => F51 p.1 p.2))
noncomputable def la52 : List (List Tidy) := [[.only [0, 1, 2, 3, 9, 10], .ids [18, 23, 27, 29, 31, 65], .top [1000000]]]
noncomputable def hd52_0 (a0 : ByteArray) (a1 : ByteArray) (a2 : Unit) (a3 : Unit) (ps0 : ByteArray) (ps3 : Int) (ps10 : Int) (ph31 : List (ByteArray)) : St := { tm := slots (nat_lit 66) [(nat_lit 0, AV.sc (Value.string ps0)), (nat_lit 1, AV.sc (Value.string a1)), (nat_lit 2, AV.sc (Value.int IntKind.i64 (0 : Int))), (nat_lit 3, AV.sc (Value.int IntKind.i64 ps3)), (nat_lit 9, AV.own (nat_lit 31)), (nat_lit 10, AV.sc (Value.int IntKind.i64 ps10))], H := [(nat_lit 31, ABlk.arr (nat_lit 9) Ty.str ph31)] }
noncomputable def b52_0 (F76 : ByteArray → ByteArray → Option (Int)) (F51 : ByteArray → ByteArray → Option (Int)) (K : Nat) (a0 : ByteArray) (a1 : ByteArray) (a2 : Unit) (a3 : Unit) (r0 : ByteArray → Int → Int → (List (ByteArray)) → Option (List (El .str))) (ps0 : ByteArray) (ps3 : Int) (ps10 : Int) (ph31 : List (ByteArray)) : Option (List (El .str)) :=(if decide (ps10 < ps3) = true then 
   (Option.bind (F51 ps0 a1) fun x1 => (if decide (x1 < (0 : Int)) = true then (if decide ((0 : Int) ≤ ps10 ∧ ps10 < (↑ph31.length : Int)) = true then (if decide ((0 : Int) ≤ (0 : Int) ∧ (0 : Int) ≤ IntKind.i64.wrap (ps10 + (1 : Int)) ∧ IntKind.i64.wrap (ps10 + (1 : Int)) ≤ (↑(ph31.set ps10.toNat ps0).length : Int)) = true then some (List.drop (Int.toNat (0 : Int)) (List.take (IntKind.i64.wrap (ps10 + (1 : Int))).toNat (ph31.set ps10.toNat ps0)))
      else none)
     else none)
    else (if decide ((0 : Int) ≤ (0 : Int) ∧ (0 : Int) ≤ IntKind.i64.wrap (x1 + (0 : Int)) ∧ IntKind.i64.wrap (x1 + (0 : Int)) ≤ (↑ps0.size : Int)) = true then (if decide ((0 : Int) ≤ ps10 ∧ ps10 < (↑ph31.length : Int)) = true then (if decide ((0 : Int) ≤ IntKind.i64.wrap (x1 + (↑a1.size : Int)) ∧ IntKind.i64.wrap (x1 + (↑a1.size : Int)) ≤ (↑ps0.size : Int) ∧ (↑ps0.size : Int) ≤ (↑ps0.size : Int)) = true then r0 (ps0.extract (IntKind.i64.wrap (x1 + (↑a1.size : Int))).toNat (↑ps0.size : Int).toNat) (ps3) (IntKind.i64.wrap (ps10 + (1 : Int))) (ph31.set ps10.toNat (ps0.extract (Int.toNat (0 : Int)) (IntKind.i64.wrap (x1 + (0 : Int))).toNat))
       else none)
      else none)
     else none)))
  else (if decide ((0 : Int) ≤ ps10 ∧ ps10 < (↑ph31.length : Int)) = true then (if decide ((0 : Int) ≤ (0 : Int) ∧ (0 : Int) ≤ IntKind.i64.wrap (ps10 + (1 : Int)) ∧ IntKind.i64.wrap (ps10 + (1 : Int)) ≤ (↑(ph31.set ps10.toNat ps0).length : Int)) = true then some (List.drop (Int.toNat (0 : Int)) (List.take (IntKind.i64.wrap (ps10 + (1 : Int))).toNat (ph31.set ps10.toNat ps0)))
    else none)
   else none))
noncomputable def L52_0 (F76 : ByteArray → ByteArray → Option (Int)) (F51 : ByteArray → ByteArray → Option (Int)) (K : Nat) (a0 : ByteArray) (a1 : ByteArray) (a2 : Unit) (a3 : Unit) : Nat → ByteArray → Int → Int → (List (ByteArray)) → Option (List (El .str))
  | 0, _, _, _, _ => none
  | n + 1, ps0, ps3, ps10, ph31 => b52_0 F76 F51 K a0 a1 a2 a3 (L52_0 F76 F51 K a0 a1 a2 a3 n) ps0 ps3 ps10 ph31
noncomputable def t52 (F76 : ByteArray → ByteArray → Option (Int)) (F51 : ByteArray → ByteArray → Option (Int)) (K : Nat) (a0 : ByteArray) (a1 : ByteArray) (a2 : Unit) (a3 : Unit) (l0 : Nat → ByteArray → Int → Int → (List (ByteArray)) → Option (List (El .str))) : Option (List (El .str)) := (if (a1.toList == (ByteArray.mk (#[])).toList) = true then none
 else 
  (Option.bind (F76 a0 a1) fun x0 => (if decide (((0 : Int) ≤ if IntKind.i64.wrap ((↑a0.size : Int) + (1 : Int)) < IntKind.i64.wrap (x0 + (1 : Int)) then IntKind.i64.wrap ((↑a0.size : Int) + (1 : Int)) else IntKind.i64.wrap (x0 + (1 : Int))) ∧ ((if IntKind.i64.wrap ((↑a0.size : Int) + (1 : Int)) < IntKind.i64.wrap (x0 + (1 : Int)) then IntKind.i64.wrap ((↑a0.size : Int) + (1 : Int)) else IntKind.i64.wrap (x0 + (1 : Int))) ≤ if IntKind.i64.wrap ((↑a0.size : Int) + (1 : Int)) < IntKind.i64.wrap (x0 + (1 : Int)) then IntKind.i64.wrap ((↑a0.size : Int) + (1 : Int)) else IntKind.i64.wrap (x0 + (1 : Int))) ∧ ((↑Tryd.prog.types[(9 : Nat)].bytes : Int) * if IntKind.i64.wrap ((↑a0.size : Int) + (1 : Int)) < IntKind.i64.wrap (x0 + (1 : Int)) then IntKind.i64.wrap ((↑a0.size : Int) + (1 : Int)) else IntKind.i64.wrap (x0 + (1 : Int))) ≤ (281474976710656 : Int) ∧ (if IntKind.i64.wrap ((↑a0.size : Int) + (1 : Int)) < IntKind.i64.wrap (x0 + (1 : Int)) then IntKind.i64.wrap ((↑a0.size : Int) + (1 : Int)) else IntKind.i64.wrap (x0 + (1 : Int))) ≤ (9223372036854775807 : Int)) = true then l0 K (a0) (IntKind.i64.wrap ((if IntKind.i64.wrap ((↑a0.size : Int) + (1 : Int)) < IntKind.i64.wrap (x0 + (1 : Int)) then IntKind.i64.wrap ((↑a0.size : Int) + (1 : Int)) else IntKind.i64.wrap (x0 + (1 : Int))) - (1 : Int))) ((0 : Int)) (List.replicate (if IntKind.i64.wrap ((↑a0.size : Int) + (1 : Int)) < IntKind.i64.wrap (x0 + (1 : Int)) then IntKind.i64.wrap ((↑a0.size : Int) + (1 : Int)) else IntKind.i64.wrap (x0 + (1 : Int))).toNat (ByteArray.mk (#[])))
   else none)))
noncomputable def G52 (F76 : ByteArray → ByteArray → Option (Int)) (F51 : ByteArray → ByteArray → Option (Int)) (K : Nat) (a0 : ByteArray) (a1 : ByteArray) (a2 : Unit) (a3 : Unit) : Option (List (El .str)) := t52 F76 F51 K a0 a1 a2 a3 (L52_0 F76 F51 K a0 a1 a2 a3)
theorem lp52_0 (F76 : ByteArray → ByteArray → Option (Int)) (F51 : ByteArray → ByteArray → Option (Int)) (K : Nat) (a0 : ByteArray) (a1 : ByteArray) (a2 : Unit) (a3 : Unit) : ∀ (n : Nat) (ps0 : ByteArray) (ps3 : Int) (ps10 : Int) (ph31 : List (ByteArray)), loopN Tryd.prog (tab52 F76 F51) 0 K Tryd.f52 la52 dq52.k 0 [] n (hd52_0 a0 a1 a2 a3 ps0 ps3 ps10 ph31) = L52_0 F76 F51 K a0 a1 a2 a3 n ps0 ps3 ps10 ph31
  | 0, _, _, _, _ => by kernel_rfl
  | n + 1, ps0, ps3, ps10, ph31 => by
    have h : loopN Tryd.prog (tab52 F76 F51) 0 K Tryd.f52 la52 dq52.k 0 [] (n + 1) (hd52_0 a0 a1 a2 a3 ps0 ps3 ps10 ph31) = b52_0 F76 F51 K a0 a1 a2 a3 (fun q0 q1 q2 q3 => loopN Tryd.prog (tab52 F76 F51) 0 K Tryd.f52 la52 dq52.k 0 [] n (hd52_0 a0 a1 a2 a3 q0 q1 q2 q3)) ps0 ps3 ps10 ph31 := by kernel_rfl
    rw [h]
    simp only [lp52_0 F76 F51 K a0 a1 a2 a3 n]
    rfl
theorem ev52 (F76 : ByteArray → ByteArray → Option (Int)) (F51 : ByteArray → ByteArray → Option (Int)) (K : Nat) (a0 : ByteArray) (a1 : ByteArray) (a2 : Unit) (a3 : Unit) : evFun Tryd.prog (tab52 F76 F51) 0 K Tryd.f52 la52 [.sc (.string a0), .sc (.string a1), I .i64 0, I .i64 (-1)] [] dq52.k = G52 F76 F51 K a0 a1 a2 a3 := by
  have h : evFun Tryd.prog (tab52 F76 F51) 0 K Tryd.f52 la52 [.sc (.string a0), .sc (.string a1), I .i64 0, I .i64 (-1)] [] dq52.k = t52 F76 F51 K a0 a1 a2 a3 (fun k q0 q1 q2 q3 => loopN Tryd.prog (tab52 F76 F51) 0 K Tryd.f52 la52 dq52.k 0 [] k (hd52_0 a0 a1 a2 a3 q0 q1 q2 q3)) := by kernel_rfl
  rw [h]
  simp only [lp52_0 F76 F51 K a0 a1 a2 a3]
  rfl
noncomputable def F52 (K : Nat) (a0 : ByteArray) (a1 : ByteArray) (a2 : Unit) (a3 : Unit) : Option (List (El .str)) := G52 (F76 K) (F51 K) K a0 a1 a2 a3
theorem cok52 (K : Nat) : CallOK D Tryd.prog (tab52 (F76 K) (F51 K)) := (add_ok (add_ok none_ok ent76 (ok76 K)) ent51 (ok51 K))
theorem ok52 (K : Nat) : RowOK D Tryd.prog 52 (row ad52 dq52 fun p => F52 K p.1 p.2.1 p.2.2.1 p.2.2.2) := row_ok fun x r h => has_of (cok52 K) Tryd.func52 ((ev52 (F76 K) (F51 K) K x.1 x.2.1 x.2.2.1 x.2.2.2).trans h)
/-! strings.Split -/
noncomputable def tab34 (F52 : ByteArray → ByteArray → Unit → Unit → Option (List (El .str))) : Tab := (Tab.none.add 52 (row ad52 dq52 fun p => F52 p.1 p.2.1 p.2.2.1 p.2.2.2))
noncomputable def t34 (F52 : ByteArray → ByteArray → Unit → Unit → Option (List (El .str))) (K : Nat) (a0 : ByteArray) (a1 : ByteArray) : Option (List (El .str)) := 
 (Option.bind (F52 a0 a1 () ()) fun x0 => some (x0))
noncomputable def G34 (F52 : ByteArray → ByteArray → Unit → Unit → Option (List (El .str))) (K : Nat) (a0 : ByteArray) (a1 : ByteArray) : Option (List (El .str)) := t34 F52 K a0 a1
theorem ev34 (F52 : ByteArray → ByteArray → Unit → Unit → Option (List (El .str))) (K : Nat) (a0 : ByteArray) (a1 : ByteArray) : evFun Tryd.prog (tab34 F52) 0 K Tryd.f34 [] [.sc (.string a0), .sc (.string a1)] [] dq34.k = G34 F52 K a0 a1 := by
  kernel_rfl
noncomputable def F34 (K : Nat) (a0 : ByteArray) (a1 : ByteArray) : Option (List (El .str)) := G34 (F52 K) K a0 a1
theorem cok34 (K : Nat) : CallOK D Tryd.prog (tab34 (F52 K)) := (add_ok none_ok ent52 (ok52 K))
theorem ok34 (K : Nat) : RowOK D Tryd.prog 34 (row ad34 dq34 fun p => F34 K p.1 p.2) := row_ok fun x r h => has_of (cok34 K) Tryd.func34 ((ev34 (F52 K) K x.1 x.2).trans h)
/-! ganger/depend.names -/
noncomputable def tab26 : Tab := Tab.none
noncomputable def t26 (K : Nat) : Option (El T60) := some (((ByteArray.mk (#[])), (ByteArray.mk (#[(97 : UInt8), (102 : UInt8), (116 : UInt8), (101 : UInt8), (114 : UInt8)])), (ByteArray.mk (#[(97 : UInt8), (102 : UInt8), (116 : UInt8), (101 : UInt8), (114 : UInt8), (111 : UInt8), (107 : UInt8)])), (ByteArray.mk (#[(97 : UInt8), (102 : UInt8), (116 : UInt8), (101 : UInt8), (114 : UInt8), (110 : UInt8), (111 : UInt8), (116 : UInt8), (111 : UInt8), (107 : UInt8)])), (ByteArray.mk (#[(97 : UInt8), (102 : UInt8), (116 : UInt8), (101 : UInt8), (114 : UInt8), (97 : UInt8), (110 : UInt8), (121 : UInt8)])), (ByteArray.mk (#[(115 : UInt8), (105 : UInt8), (110 : UInt8), (103 : UInt8), (108 : UInt8), (101 : UInt8), (116 : UInt8), (111 : UInt8), (110 : UInt8)]))))
noncomputable def G26 (K : Nat) : Option (El T60) := t26 K
theorem ev26 (K : Nat) : evFun Tryd.prog (tab26) 0 K Tryd.f26 [] [] [] dq26.k = G26 K := by
  kernel_rfl
noncomputable def F26 (K : Nat) : Option (El T60) := G26 K
theorem cok26 (K : Nat) : CallOK D Tryd.prog (tab26) := none_ok
theorem ok26 (K : Nat) : RowOK D Tryd.prog 26 (row ad26 dq26 fun p => F26 K) := row_ok fun x r h => has_of (cok26 K) Tryd.func26 ((ev26 K).trans h)
end Go.Proofs.YtigekmmdflaeaaaDoorE
