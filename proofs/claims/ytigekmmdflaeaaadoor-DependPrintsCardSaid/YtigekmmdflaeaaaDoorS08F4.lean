import Derived.Test.YtigekmmdflaeaaaDoorS08W53
set_option linter.all false
namespace Go.Proofs.YtigekmmdflaeaaaDoorE
open Go Go.Proofs
set_option maxRecDepth 100000
set_option linter.unusedVariables false
variable {D : Cx}
/-! ganger/depend.need -/
noncomputable def tab35 (F34 : ByteArray → ByteArray → Option (List (El .str))) (F26 : Option (El T60)) (F53 : ByteArray → Option (Int × Bool)) : Tab := (((Tab.none.add 34 (row ad34 dq34 fun p => F34 p.1 p.2)).add 26 (row ad26 dq26 fun p => F26)).add 53 (row ad53 dq53 fun p => F53 p))
noncomputable def la35 : List (List Tidy) := [[.only [2, 4, 5, 14, 15], .ids [2, 5, 13, 14, 32, 33, 40, 49, 50, 63], .top [1000000]], [.only [2, 5, 32, 33, 34], .prob 5 1 50 38 (.int .u32), .ids [2, 5, 13, 14, 32, 33, 50, 63], .top [1000001]], [.frz (List.range 64)]]
noncomputable def hd35_0 (a0 : ByteArray) (ps4 : List (ByteArray)) (ps14_0 : ByteArray) (ps14_1 : ByteArray) (ps14_2 : ByteArray) (ps14_3 : ByteArray) (ps14_4 : ByteArray) (ps14_5 : ByteArray) (ps15 : Int) (ph5_0 : Int) : St := { tm := slots (nat_lit 67) [(nat_lit 2, AV.ptr (nat_lit 2) (nat_lit 0)), (nat_lit 4, AV.row Ty.str ps4), (nat_lit 5, AV.ptr (nat_lit 5) (nat_lit 0)), (nat_lit 14, AV.agg [AV.sc (Value.string ps14_0), AV.sc (Value.string ps14_1), AV.sc (Value.string ps14_2), AV.sc (Value.string ps14_3), AV.sc (Value.string ps14_4), AV.sc (Value.string ps14_5)]), (nat_lit 15, AV.sc (Value.int IntKind.i64 ps15))], H := [(nat_lit 2, ABlk.box (nat_lit 46) [AV.sc (Value.int IntKind.i64 (0 : Int)), AV.sc (Value.slice none (0 : Nat) (0 : Nat))]), (nat_lit 5, ABlk.box (nat_lit 46) [AV.sc (Value.int IntKind.i64 ph5_0), AV.sc (Value.slice none (0 : Nat) (0 : Nat))])] }
noncomputable def hd35_1 (a0 : ByteArray) (ps32 : List (ByteArray)) (ps33 : Int) (ps34 : Int) (ph5_0 : Int) (ph50 : List (Int)) : St := { tm := slots (nat_lit 67) [(nat_lit 2, AV.ptr (nat_lit 2) (nat_lit 0)), (nat_lit 5, AV.ptr (nat_lit 5) (nat_lit 0)), (nat_lit 32, AV.row Ty.str ps32), (nat_lit 33, AV.sc (Value.int IntKind.i64 ps33)), (nat_lit 34, AV.sc (Value.int IntKind.i64 ps34))], H := [(nat_lit 2, ABlk.box (nat_lit 46) [AV.sc (Value.int IntKind.i64 (0 : Int)), AV.sc (Value.slice none (0 : Nat) (0 : Nat))]), (nat_lit 5, ABlk.box (nat_lit 46) [AV.sc (Value.int IntKind.i64 ph5_0), AV.own (nat_lit 50)]), (nat_lit 50, ABlk.arr (nat_lit 38) (Ty.int IntKind.u32) ph50)] }
noncomputable def b35_1 (F34 : ByteArray → ByteArray → Option (List (El .str))) (F26 : Option (El T60)) (F53 : ByteArray → Option (Int × Bool)) (K : Nat) (a0 : ByteArray) (r1 : (List (ByteArray)) → Int → Int → Int → (List (Int)) → Option ((El T46) × Bool)) (ps32 : List (ByteArray)) (ps33 : Int) (ps34 : Int) (ph5_0 : Int) (ph50 : List (Int)) : Option ((El T46) × Bool) :=(if decide (ps34 < ps33) = true then (if decide ((0 : Int) ≤ ps34 ∧ ps34 < (↑ps32.length : Int)) = true then 
    (Option.bind (F53 (ps32.getD ps34.toNat (zEl Ty.str))) fun x2 => (if (!x2.2) = true then some (((ph5_0, ph50), false))
     else (if decide ((ph50.length + [x2.1].length) * Tryd.prog.types[(38 : Nat)].bytes ≤ (140737488355328 : Nat)) = true then r1 (ps32) (ps33) (IntKind.i64.wrap (ps34 + (1 : Int))) (ph5_0) (ph50 ++ [x2.1])
      else none)))
   else none)
  else (if decide (ph5_0 > (0 : Int)) = true then some (((ph5_0, ph50), (ph5_0 == (5 : Int)) == ((↑ph50.length : Int) == (0 : Int))))
   else some (((ph5_0, ph50), false))))
noncomputable def L35_1 (F34 : ByteArray → ByteArray → Option (List (El .str))) (F26 : Option (El T60)) (F53 : ByteArray → Option (Int × Bool)) (K : Nat) (a0 : ByteArray) : Nat → (List (ByteArray)) → Int → Int → Int → (List (Int)) → Option ((El T46) × Bool)
  | 0, _, _, _, _, _ => none
  | n + 1, ps32, ps33, ps34, ph5_0, ph50 => b35_1 F34 F26 F53 K a0 (L35_1 F34 F26 F53 K a0 n) ps32 ps33 ps34 ph5_0 ph50
noncomputable def b35_0 (F34 : ByteArray → ByteArray → Option (List (El .str))) (F26 : Option (El T60)) (F53 : ByteArray → Option (Int × Bool)) (K : Nat) (a0 : ByteArray) (r0 : (List (ByteArray)) → ByteArray → ByteArray → ByteArray → ByteArray → ByteArray → ByteArray → Int → Int → Option ((El T46) × Bool)) (l1 : Nat → (List (ByteArray)) → Int → Int → Int → (List (Int)) → Option ((El T46) × Bool)) (ps4 : List (ByteArray)) (ps14_0 : ByteArray) (ps14_1 : ByteArray) (ps14_2 : ByteArray) (ps14_3 : ByteArray) (ps14_4 : ByteArray) (ps14_5 : ByteArray) (ps15 : Int) (ph5_0 : Int) : Option ((El T46) × Bool) :=(if decide (ps15 < (6 : Int)) = true then (if ps15 = (↑(0 : Nat) : Int) then (if decide (ps15 > (0 : Int)) = true then (if decide ((0 : Int) ≤ (0 : Int) ∧ (0 : Int) < (↑ps4.length : Int)) = true then (if (ps14_0.toList == ByteArray.toList (ps4.getD (Int.toNat (0 : Int)) (zEl Ty.str))) = true then r0 (ps4) (ps14_0) (ps14_1) (ps14_2) (ps14_3) (ps14_4) (ps14_5) (IntKind.i64.wrap ((↑(0 : Nat) : Int) + (1 : Int))) (ps15)
      else r0 (ps4) (ps14_0) (ps14_1) (ps14_2) (ps14_3) (ps14_4) (ps14_5) (IntKind.i64.wrap ((↑(0 : Nat) : Int) + (1 : Int))) (ph5_0))
     else none)
    else r0 (ps4) (ps14_0) (ps14_1) (ps14_2) (ps14_3) (ps14_4) (ps14_5) (IntKind.i64.wrap ((↑(0 : Nat) : Int) + (1 : Int))) (ph5_0))
   else (if ps15 = (↑((0 : Nat) + (1 : Nat)) : Int) then (if decide (ps15 > (0 : Int)) = true then (if decide ((0 : Int) ≤ (0 : Int) ∧ (0 : Int) < (↑ps4.length : Int)) = true then (if (ps14_1.toList == ByteArray.toList (ps4.getD (Int.toNat (0 : Int)) (zEl Ty.str))) = true then r0 (ps4) (ps14_0) (ps14_1) (ps14_2) (ps14_3) (ps14_4) (ps14_5) (IntKind.i64.wrap ((↑((0 : Nat) + (1 : Nat)) : Int) + (1 : Int))) (ps15)
       else r0 (ps4) (ps14_0) (ps14_1) (ps14_2) (ps14_3) (ps14_4) (ps14_5) (IntKind.i64.wrap ((↑((0 : Nat) + (1 : Nat)) : Int) + (1 : Int))) (ph5_0))
      else none)
     else r0 (ps4) (ps14_0) (ps14_1) (ps14_2) (ps14_3) (ps14_4) (ps14_5) (IntKind.i64.wrap ((↑((0 : Nat) + (1 : Nat)) : Int) + (1 : Int))) (ph5_0))
    else (if ps15 = (↑((0 : Nat) + (1 : Nat) + (1 : Nat)) : Int) then (if decide (ps15 > (0 : Int)) = true then (if decide ((0 : Int) ≤ (0 : Int) ∧ (0 : Int) < (↑ps4.length : Int)) = true then (if (ps14_2.toList == ByteArray.toList (ps4.getD (Int.toNat (0 : Int)) (zEl Ty.str))) = true then r0 (ps4) (ps14_0) (ps14_1) (ps14_2) (ps14_3) (ps14_4) (ps14_5) (IntKind.i64.wrap ((↑((0 : Nat) + (1 : Nat) + (1 : Nat)) : Int) + (1 : Int))) (ps15)
        else r0 (ps4) (ps14_0) (ps14_1) (ps14_2) (ps14_3) (ps14_4) (ps14_5) (IntKind.i64.wrap ((↑((0 : Nat) + (1 : Nat) + (1 : Nat)) : Int) + (1 : Int))) (ph5_0))
       else none)
      else r0 (ps4) (ps14_0) (ps14_1) (ps14_2) (ps14_3) (ps14_4) (ps14_5) (IntKind.i64.wrap ((↑((0 : Nat) + (1 : Nat) + (1 : Nat)) : Int) + (1 : Int))) (ph5_0))
     else (if ps15 = (↑((0 : Nat) + (1 : Nat) + (1 : Nat) + (1 : Nat)) : Int) then (if decide (ps15 > (0 : Int)) = true then (if decide ((0 : Int) ≤ (0 : Int) ∧ (0 : Int) < (↑ps4.length : Int)) = true then (if (ps14_3.toList == ByteArray.toList (ps4.getD (Int.toNat (0 : Int)) (zEl Ty.str))) = true then r0 (ps4) (ps14_0) (ps14_1) (ps14_2) (ps14_3) (ps14_4) (ps14_5) (IntKind.i64.wrap ((↑((0 : Nat) + (1 : Nat) + (1 : Nat) + (1 : Nat)) : Int) + (1 : Int))) (ps15)
         else r0 (ps4) (ps14_0) (ps14_1) (ps14_2) (ps14_3) (ps14_4) (ps14_5) (IntKind.i64.wrap ((↑((0 : Nat) + (1 : Nat) + (1 : Nat) + (1 : Nat)) : Int) + (1 : Int))) (ph5_0))
        else none)
       else r0 (ps4) (ps14_0) (ps14_1) (ps14_2) (ps14_3) (ps14_4) (ps14_5) (IntKind.i64.wrap ((↑((0 : Nat) + (1 : Nat) + (1 : Nat) + (1 : Nat)) : Int) + (1 : Int))) (ph5_0))
      else (if ps15 = (↑((0 : Nat) + (1 : Nat) + (1 : Nat) + (1 : Nat) + (1 : Nat)) : Int) then (if decide (ps15 > (0 : Int)) = true then (if decide ((0 : Int) ≤ (0 : Int) ∧ (0 : Int) < (↑ps4.length : Int)) = true then (if (ps14_4.toList == ByteArray.toList (ps4.getD (Int.toNat (0 : Int)) (zEl Ty.str))) = true then r0 (ps4) (ps14_0) (ps14_1) (ps14_2) (ps14_3) (ps14_4) (ps14_5) (IntKind.i64.wrap ((↑((0 : Nat) + (1 : Nat) + (1 : Nat) + (1 : Nat) + (1 : Nat)) : Int) + (1 : Int))) (ps15)
          else r0 (ps4) (ps14_0) (ps14_1) (ps14_2) (ps14_3) (ps14_4) (ps14_5) (IntKind.i64.wrap ((↑((0 : Nat) + (1 : Nat) + (1 : Nat) + (1 : Nat) + (1 : Nat)) : Int) + (1 : Int))) (ph5_0))
         else none)
        else r0 (ps4) (ps14_0) (ps14_1) (ps14_2) (ps14_3) (ps14_4) (ps14_5) (IntKind.i64.wrap ((↑((0 : Nat) + (1 : Nat) + (1 : Nat) + (1 : Nat) + (1 : Nat)) : Int) + (1 : Int))) (ph5_0))
       else (if ps15 = (↑((0 : Nat) + (1 : Nat) + (1 : Nat) + (1 : Nat) + (1 : Nat) + (1 : Nat)) : Int) then (if decide (ps15 > (0 : Int)) = true then (if decide ((0 : Int) ≤ (0 : Int) ∧ (0 : Int) < (↑ps4.length : Int)) = true then (if (ps14_5.toList == ByteArray.toList (ps4.getD (Int.toNat (0 : Int)) (zEl Ty.str))) = true then r0 (ps4) (ps14_0) (ps14_1) (ps14_2) (ps14_3) (ps14_4) (ps14_5) (IntKind.i64.wrap ((↑((0 : Nat) + (1 : Nat) + (1 : Nat) + (1 : Nat) + (1 : Nat) + (1 : Nat)) : Int) + (1 : Int))) (ps15)
           else r0 (ps4) (ps14_0) (ps14_1) (ps14_2) (ps14_3) (ps14_4) (ps14_5) (IntKind.i64.wrap ((↑((0 : Nat) + (1 : Nat) + (1 : Nat) + (1 : Nat) + (1 : Nat) + (1 : Nat)) : Int) + (1 : Int))) (ph5_0))
          else none)
         else r0 (ps4) (ps14_0) (ps14_1) (ps14_2) (ps14_3) (ps14_4) (ps14_5) (IntKind.i64.wrap ((↑((0 : Nat) + (1 : Nat) + (1 : Nat) + (1 : Nat) + (1 : Nat) + (1 : Nat)) : Int) + (1 : Int))) (ph5_0))
        else none))))))
  else (if decide ((0 : Int) ≤ (1 : Int) ∧ (1 : Int) ≤ (↑ps4.length : Int) ∧ (↑ps4.length : Int) ≤ (↑ps4.length : Int)) = true then l1 K (List.drop (Int.toNat (1 : Int)) (List.take (↑ps4.length : Int).toNat ps4)) ((↑(List.drop (Int.toNat (1 : Int)) (List.take (↑ps4.length : Int).toNat ps4)).length : Int)) ((0 : Int)) (ph5_0) ([])
   else none))
noncomputable def L35_0 (F34 : ByteArray → ByteArray → Option (List (El .str))) (F26 : Option (El T60)) (F53 : ByteArray → Option (Int × Bool)) (K : Nat) (a0 : ByteArray) : Nat → (List (ByteArray)) → ByteArray → ByteArray → ByteArray → ByteArray → ByteArray → ByteArray → Int → Int → Option ((El T46) × Bool)
  | 0, _, _, _, _, _, _, _, _, _ => none
  | n + 1, ps4, ps14_0, ps14_1, ps14_2, ps14_3, ps14_4, ps14_5, ps15, ph5_0 => b35_0 F34 F26 F53 K a0 (L35_0 F34 F26 F53 K a0 n) (L35_1 F34 F26 F53 K a0) ps4 ps14_0 ps14_1 ps14_2 ps14_3 ps14_4 ps14_5 ps15 ph5_0
noncomputable def t35 (F34 : ByteArray → ByteArray → Option (List (El .str))) (F26 : Option (El T60)) (F53 : ByteArray → Option (Int × Bool)) (K : Nat) (a0 : ByteArray) (l0 : Nat → (List (ByteArray)) → ByteArray → ByteArray → ByteArray → ByteArray → ByteArray → ByteArray → Int → Int → Option ((El T46) × Bool)) : Option ((El T46) × Bool) := 
 (Option.bind (F34 a0 (ByteArray.mk (#[(58 : UInt8)]))) fun x0 => 
  (Option.bind (F26) fun x1 => l0 K (x0) (x1.1) (x1.2.1) (x1.2.2.1) (x1.2.2.2.1) (x1.2.2.2.2.1) (x1.2.2.2.2.2) ((0 : Int)) ((0 : Int))))
noncomputable def G35 (F34 : ByteArray → ByteArray → Option (List (El .str))) (F26 : Option (El T60)) (F53 : ByteArray → Option (Int × Bool)) (K : Nat) (a0 : ByteArray) : Option ((El T46) × Bool) := t35 F34 F26 F53 K a0 (L35_0 F34 F26 F53 K a0)
theorem lp35_1 (F34 : ByteArray → ByteArray → Option (List (El .str))) (F26 : Option (El T60)) (F53 : ByteArray → Option (Int × Bool)) (K : Nat) (a0 : ByteArray) : ∀ (n : Nat) (ps32 : List (ByteArray)) (ps33 : Int) (ps34 : Int) (ph5_0 : Int) (ph50 : List (Int)), loopN Tryd.prog (tab35 F34 F26 F53) 0 K Tryd.f35 la35 dq35.k 1 [] n (hd35_1 a0 ps32 ps33 ps34 ph5_0 ph50) = L35_1 F34 F26 F53 K a0 n ps32 ps33 ps34 ph5_0 ph50
  | 0, _, _, _, _, _ => by kernel_rfl
  | n + 1, ps32, ps33, ps34, ph5_0, ph50 => by
    have h : loopN Tryd.prog (tab35 F34 F26 F53) 0 K Tryd.f35 la35 dq35.k 1 [] (n + 1) (hd35_1 a0 ps32 ps33 ps34 ph5_0 ph50) = b35_1 F34 F26 F53 K a0 (fun q0 q1 q2 q3 q4 => loopN Tryd.prog (tab35 F34 F26 F53) 0 K Tryd.f35 la35 dq35.k 1 [] n (hd35_1 a0 q0 q1 q2 q3 q4)) ps32 ps33 ps34 ph5_0 ph50 := by kernel_rfl
    rw [h]
    simp only [lp35_1 F34 F26 F53 K a0 n]
    rfl
theorem lp35_0 (F34 : ByteArray → ByteArray → Option (List (El .str))) (F26 : Option (El T60)) (F53 : ByteArray → Option (Int × Bool)) (K : Nat) (a0 : ByteArray) : ∀ (n : Nat) (ps4 : List (ByteArray)) (ps14_0 : ByteArray) (ps14_1 : ByteArray) (ps14_2 : ByteArray) (ps14_3 : ByteArray) (ps14_4 : ByteArray) (ps14_5 : ByteArray) (ps15 : Int) (ph5_0 : Int), loopN Tryd.prog (tab35 F34 F26 F53) 0 K Tryd.f35 la35 dq35.k 0 [] n (hd35_0 a0 ps4 ps14_0 ps14_1 ps14_2 ps14_3 ps14_4 ps14_5 ps15 ph5_0) = L35_0 F34 F26 F53 K a0 n ps4 ps14_0 ps14_1 ps14_2 ps14_3 ps14_4 ps14_5 ps15 ph5_0
  | 0, _, _, _, _, _, _, _, _, _ => by kernel_rfl
  | n + 1, ps4, ps14_0, ps14_1, ps14_2, ps14_3, ps14_4, ps14_5, ps15, ph5_0 => by
    have h : loopN Tryd.prog (tab35 F34 F26 F53) 0 K Tryd.f35 la35 dq35.k 0 [] (n + 1) (hd35_0 a0 ps4 ps14_0 ps14_1 ps14_2 ps14_3 ps14_4 ps14_5 ps15 ph5_0) = b35_0 F34 F26 F53 K a0 (fun q0 q1 q2 q3 q4 q5 q6 q7 q8 => loopN Tryd.prog (tab35 F34 F26 F53) 0 K Tryd.f35 la35 dq35.k 0 [] n (hd35_0 a0 q0 q1 q2 q3 q4 q5 q6 q7 q8)) (fun k q0 q1 q2 q3 q4 => loopN Tryd.prog (tab35 F34 F26 F53) 0 K Tryd.f35 la35 dq35.k 1 [] k (hd35_1 a0 q0 q1 q2 q3 q4)) ps4 ps14_0 ps14_1 ps14_2 ps14_3 ps14_4 ps14_5 ps15 ph5_0 := by kernel_rfl
    rw [h]
    simp only [lp35_0 F34 F26 F53 K a0 n, lp35_1 F34 F26 F53 K a0]
    rfl
theorem ev35 (F34 : ByteArray → ByteArray → Option (List (El .str))) (F26 : Option (El T60)) (F53 : ByteArray → Option (Int × Bool)) (K : Nat) (a0 : ByteArray) : evFun Tryd.prog (tab35 F34 F26 F53) 0 K Tryd.f35 la35 [.sc (.string a0)] [] dq35.k = G35 F34 F26 F53 K a0 := by
  have h : evFun Tryd.prog (tab35 F34 F26 F53) 0 K Tryd.f35 la35 [.sc (.string a0)] [] dq35.k = t35 F34 F26 F53 K a0 (fun k q0 q1 q2 q3 q4 q5 q6 q7 q8 => loopN Tryd.prog (tab35 F34 F26 F53) 0 K Tryd.f35 la35 dq35.k 0 [] k (hd35_0 a0 q0 q1 q2 q3 q4 q5 q6 q7 q8)) := by kernel_rfl
  rw [h]
  simp only [lp35_0 F34 F26 F53 K a0]
  rfl
noncomputable def F35 (K : Nat) (a0 : ByteArray) : Option ((El T46) × Bool) := G35 (F34 K) (F26 K) (F53 K) K a0
theorem cok35 (K : Nat) : CallOK D Tryd.prog (tab35 (F34 K) (F26 K) (F53 K)) := (add_ok (add_ok (add_ok none_ok ent34 (ok34 K)) ent26 (ok26 K)) ent53 (ok53 K))
theorem ok35 (K : Nat) : RowOK D Tryd.prog 35 (row ad35 dq35 fun p => F35 K p) := row_ok fun x r h => has_of (cok35 K) Tryd.func35 ((ev35 (F34 K) (F26 K) (F53 K) K x).trans h)
/-! slices.Index[[]uint32,uint32] -/
noncomputable def tab44 : Tab := Tab.none
noncomputable def la44 : List (List Tidy) := [[.only [0, 1, 7, 8], .ids [7], .top [1000000]]]
noncomputable def hd44_0 (a0 : List (El (.int .u32))) (a1 : Int) (ps8 : Int) : St := { tm := slots (nat_lit 19) [(nat_lit 0, AV.row (Ty.int IntKind.u32) a0), (nat_lit 1, AV.sc (Value.int IntKind.u32 a1)), (nat_lit 7, AV.sc (Value.int IntKind.i64 (↑a0.length : Int))), (nat_lit 8, AV.sc (Value.int IntKind.i64 ps8))], H := [] }
noncomputable def b44_0 (K : Nat) (a0 : List (El (.int .u32))) (a1 : Int) (r0 : Int → Option (Int)) (ps8 : Int) : Option (Int) :=(if decide (ps8 < (↑a0.length : Int)) = true then (if decide ((0 : Int) ≤ ps8 ∧ ps8 < (↑a0.length : Int)) = true then (if (a1 == a0.getD ps8.toNat (zEl (Ty.int IntKind.u32))) = true then some (ps8)
    else r0 (IntKind.i64.wrap (ps8 + (1 : Int))))
   else none)
  else some ((-1 : Int)))
noncomputable def L44_0 (K : Nat) (a0 : List (El (.int .u32))) (a1 : Int) : Nat → Int → Option (Int)
  | 0, _ => none
  | n + 1, ps8 => b44_0 K a0 a1 (L44_0 K a0 a1 n) ps8
noncomputable def t44 (K : Nat) (a0 : List (El (.int .u32))) (a1 : Int) (l0 : Nat → Int → Option (Int)) : Option (Int) := l0 K ((0 : Int))
noncomputable def G44 (K : Nat) (a0 : List (El (.int .u32))) (a1 : Int) : Option (Int) := t44 K a0 a1 (L44_0 K a0 a1)
theorem lp44_0 (K : Nat) (a0 : List (El (.int .u32))) (a1 : Int) : ∀ (n : Nat) (ps8 : Int), loopN Tryd.prog (tab44) 0 K Tryd.f44 la44 dq44.k 0 [] n (hd44_0 a0 a1 ps8) = L44_0 K a0 a1 n ps8
  | 0, _ => by kernel_rfl
  | n + 1, ps8 => by
    have h : loopN Tryd.prog (tab44) 0 K Tryd.f44 la44 dq44.k 0 [] (n + 1) (hd44_0 a0 a1 ps8) = b44_0 K a0 a1 (fun q0 => loopN Tryd.prog (tab44) 0 K Tryd.f44 la44 dq44.k 0 [] n (hd44_0 a0 a1 q0)) ps8 := by kernel_rfl
    rw [h]
    simp only [lp44_0 K a0 a1 n]
    rfl
theorem ev44 (K : Nat) (a0 : List (El (.int .u32))) (a1 : Int) : evFun Tryd.prog (tab44) 0 K Tryd.f44 la44 [.row (.int .u32) a0, I .u32 a1] [] dq44.k = G44 K a0 a1 := by
  have h : evFun Tryd.prog (tab44) 0 K Tryd.f44 la44 [.row (.int .u32) a0, I .u32 a1] [] dq44.k = t44 K a0 a1 (fun k q0 => loopN Tryd.prog (tab44) 0 K Tryd.f44 la44 dq44.k 0 [] k (hd44_0 a0 a1 q0)) := by kernel_rfl
  rw [h]
  simp only [lp44_0 K a0 a1]
  rfl
noncomputable def F44 (K : Nat) (a0 : List (El (.int .u32))) (a1 : Int) : Option (Int) := G44 K a0 a1
theorem cok44 (K : Nat) : CallOK D Tryd.prog (tab44) := none_ok
theorem ok44 (K : Nat) : RowOK D Tryd.prog 44 (row ad44 dq44 fun p => F44 K p.1 p.2) := row_ok fun x r h => has_of (cok44 K) Tryd.func44 ((ev44 K x.1 x.2).trans h)
/-! slices.Contains[[]uint32,uint32] -/
noncomputable def tab25 (F44 : (List (El (.int .u32))) → Int → Option (Int)) : Tab := (Tab.none.add 44 (row ad44 dq44 fun p => F44 p.1 p.2))
noncomputable def t25 (F44 : (List (El (.int .u32))) → Int → Option (Int)) (K : Nat) (a0 : List (El (.int .u32))) (a1 : Int) : Option (Bool) := 
 (Option.bind (F44 a0 a1) fun x0 => some (decide (x0 ≥ (0 : Int))))
noncomputable def G25 (F44 : (List (El (.int .u32))) → Int → Option (Int)) (K : Nat) (a0 : List (El (.int .u32))) (a1 : Int) : Option (Bool) := t25 F44 K a0 a1
theorem ev25 (F44 : (List (El (.int .u32))) → Int → Option (Int)) (K : Nat) (a0 : List (El (.int .u32))) (a1 : Int) : evFun Tryd.prog (tab25 F44) 0 K Tryd.f25 [] [.row (.int .u32) a0, I .u32 a1] [] dq25.k = G25 F44 K a0 a1 := by
  kernel_rfl
noncomputable def F25 (K : Nat) (a0 : List (El (.int .u32))) (a1 : Int) : Option (Bool) := G25 (F44 K) K a0 a1
theorem cok25 (K : Nat) : CallOK D Tryd.prog (tab25 (F44 K)) := (add_ok none_ok ent44 (ok44 K))
theorem ok25 (K : Nat) : RowOK D Tryd.prog 25 (row ad25 dq25 fun p => F25 K p.1 p.2) := row_ok fun x r h => has_of (cok25 K) Tryd.func25 ((ev25 (F44 K) K x.1 x.2).trans h)
/-! ganger/depend.Check -/
noncomputable def tab13 (F25 : (List (El (.int .u32))) → Int → Option (Bool)) : Tab := (Tab.none.add 25 (row ad25 dq25 fun p => F25 p.1 p.2))
noncomputable def la13 : List (List Tidy) := [[.only [21, 22, 23], .ids [1, 8, 16, 22], .top [1000000]]]
noncomputable def hd13_0 (a0 : El T24) (ps23 : Int) : St := { tm := slots (nat_lit 58) [(nat_lit 21, AV.row T46 a0.2), (nat_lit 22, AV.sc (Value.int IntKind.i64 (↑(List.length a0.2) : Int))), (nat_lit 23, AV.sc (Value.int IntKind.i64 ps23))], H := [(nat_lit 1, ABlk.box (nat_lit 24) (cellsOf T24 a0))] }
noncomputable def b13_0 (F25 : (List (El (.int .u32))) → Int → Option (Bool)) (K : Nat) (a0 : El T24) (r0 : Int → Option (Int)) (ps23 : Int) : Option (Int) :=(if decide (ps23 < (↑(List.length a0.2) : Int)) = true then (if decide ((0 : Int) ≤ ps23 ∧ ps23 < (↑(List.length a0.2) : Int)) = true then (if decide ((List.getD a0.2 ps23.toNat (zEl T46)).1 < (1 : Int)) = true then some ((2 : Int))
    else (if decide ((List.getD a0.2 ps23.toNat (zEl T46)).1 > (5 : Int)) = true then some ((2 : Int))
     else (if (!((List.getD a0.2 ps23.toNat (zEl T46)).1 == (5 : Int)) == ((↑(List.length (List.getD a0.2 ps23.toNat (zEl T46)).2) : Int) == (0 : Int))) = true then some ((2 : Int))
      else (if decide ((↑(List.length (List.getD a0.2 ps23.toNat (zEl T46)).2) : Int) > (20 : Int)) = true then some ((2 : Int))
       else 
        (Option.bind (F25 (List.getD a0.2 ps23.toNat (zEl T46)).2 (0 : Int)) fun x0 => (if x0 = true then some ((2 : Int))
         else r0 (IntKind.i64.wrap (ps23 + (1 : Int)))))))))
   else none)
  else some ((0 : Int)))
noncomputable def L13_0 (F25 : (List (El (.int .u32))) → Int → Option (Bool)) (K : Nat) (a0 : El T24) : Nat → Int → Option (Int)
  | 0, _ => none
  | n + 1, ps23 => b13_0 F25 K a0 (L13_0 F25 K a0 n) ps23
noncomputable def t13 (F25 : (List (El (.int .u32))) → Int → Option (Bool)) (K : Nat) (a0 : El T24) (l0 : Nat → Int → Option (Int)) : Option (Int) := (if decide ((↑(List.length a0.2) : Int) > (20 : Int)) = true then some ((2 : Int))
 else (if a0.1 = true then (if decide ((↑(List.length a0.2) : Int) < (2 : Int)) = true then some ((2 : Int))
   else l0 K ((0 : Int)))
  else l0 K ((0 : Int))))
noncomputable def G13 (F25 : (List (El (.int .u32))) → Int → Option (Bool)) (K : Nat) (a0 : El T24) : Option (Int) := t13 F25 K a0 (L13_0 F25 K a0)
theorem lp13_0 (F25 : (List (El (.int .u32))) → Int → Option (Bool)) (K : Nat) (a0 : El T24) : ∀ (n : Nat) (ps23 : Int), loopN Tryd.prog (tab13 F25) 0 K Tryd.f13 la13 dq13.k 0 [] n (hd13_0 a0 ps23) = L13_0 F25 K a0 n ps23
  | 0, _ => by kernel_rfl
  | n + 1, ps23 => by
    have h : loopN Tryd.prog (tab13 F25) 0 K Tryd.f13 la13 dq13.k 0 [] (n + 1) (hd13_0 a0 ps23) = b13_0 F25 K a0 (fun q0 => loopN Tryd.prog (tab13 F25) 0 K Tryd.f13 la13 dq13.k 0 [] n (hd13_0 a0 q0)) ps23 := by kernel_rfl
    rw [h]
    simp only [lp13_0 F25 K a0 n]
    rfl
theorem ev13 (F25 : (List (El (.int .u32))) → Int → Option (Bool)) (K : Nat) (a0 : El T24) : evFun Tryd.prog (tab13 F25) 0 K Tryd.f13 la13 [.agg (cellsOf T24 a0)] [] dq13.k = G13 F25 K a0 := by
  have h : evFun Tryd.prog (tab13 F25) 0 K Tryd.f13 la13 [.agg (cellsOf T24 a0)] [] dq13.k = t13 F25 K a0 (fun k q0 => loopN Tryd.prog (tab13 F25) 0 K Tryd.f13 la13 dq13.k 0 [] k (hd13_0 a0 q0)) := by kernel_rfl
  rw [h]
  simp only [lp13_0 F25 K a0]
  rfl
noncomputable def F13 (K : Nat) (a0 : El T24) : Option (Int) := G13 (F25 K) K a0
theorem cok13 (K : Nat) : CallOK D Tryd.prog (tab13 (F25 K)) := (add_ok none_ok ent25 (ok25 K))
theorem ok13 (K : Nat) : RowOK D Tryd.prog 13 (row ad13 dq13 fun p => F13 K p) := row_ok fun x r h => has_of (cok13 K) Tryd.func13 ((ev13 (F25 K) K x).trans h)
/-! ganger/depend.Parse -/
noncomputable def tab21 (F33 : ByteArray → ByteArray → Option (Bool)) (F34 : ByteArray → ByteArray → Option (List (El .str))) (F35 : ByteArray → Option ((El T46) × Bool)) (F13 : (El T24) → Option (Int)) : Tab := ((((Tab.none.add 33 (row ad33 dq33 fun p => F33 p.1 p.2)).add 34 (row ad34 dq34 fun p => F34 p.1 p.2)).add 35 (row ad35 dq35 fun p => F35 p)).add 13 (row ad13 dq13 fun p => F13 p))
noncomputable def la21 : List (List Tidy) := [[.only [2, 4, 21, 22, 23], .prob 4 1 39 46 T46, .ids [2, 4, 12, 21, 22, 39, 43], .top [1000000]], [.frz (List.range 64)]]
noncomputable def hd21_0 (a0 : ByteArray) (ps21 : List (ByteArray)) (ps22 : Int) (ps23 : Int) (ph4_0 : Bool) (ph39 : List (El T46)) : St := { tm := slots (nat_lit 49) [(nat_lit 2, AV.ptr (nat_lit 2) (nat_lit 0)), (nat_lit 4, AV.ptr (nat_lit 4) (nat_lit 0)), (nat_lit 21, AV.row Ty.str ps21), (nat_lit 22, AV.sc (Value.int IntKind.i64 ps22)), (nat_lit 23, AV.sc (Value.int IntKind.i64 ps23))], H := [(nat_lit 2, ABlk.box (nat_lit 24) [AV.sc (Value.bool false), AV.sc (Value.slice none (0 : Nat) (0 : Nat))]), (nat_lit 4, ABlk.box (nat_lit 24) [AV.sc (Value.bool ph4_0), AV.own (nat_lit 39)]), (nat_lit 39, ABlk.arr (nat_lit 46) T46 ph39)] }
noncomputable def b21_0 (F33 : ByteArray → ByteArray → Option (Bool)) (F34 : ByteArray → ByteArray → Option (List (El .str))) (F35 : ByteArray → Option ((El T46) × Bool)) (F13 : (El T24) → Option (Int)) (K : Nat) (a0 : ByteArray) (r0 : (List (ByteArray)) → Int → Int → Bool → (List (El T46)) → Option ((El T24) × Int)) (ps21 : List (ByteArray)) (ps22 : Int) (ps23 : Int) (ph4_0 : Bool) (ph39 : List (El T46)) : Option ((El T24) × Int) :=(if decide (ps23 < ps22) = true then (if decide ((0 : Int) ≤ ps23 ∧ ps23 < (↑ps21.length : Int)) = true then 
    (Option.bind (F35 (ps21.getD ps23.toNat (zEl Ty.str))) fun x3 => (if (!x3.2) = true then some (((false, []), (60 : Int)))
     else (if decide ((ph39.length + [x3.1].length) * Tryd.prog.types[(46 : Nat)].bytes ≤ (140737488355328 : Nat)) = true then r0 (ps21) (ps22) (IntKind.i64.wrap (ps23 + (1 : Int))) (ph4_0) (ph39 ++ [x3.1])
      else none)))
   else none)
  else 
   (Option.bind (F13 (ph4_0, ph39)) fun x4 => (if (x4 != (0 : Int)) = true then some (((false, []), x4))
    else some (((ph4_0, ph39), (0 : Int))))))
noncomputable def L21_0 (F33 : ByteArray → ByteArray → Option (Bool)) (F34 : ByteArray → ByteArray → Option (List (El .str))) (F35 : ByteArray → Option ((El T46) × Bool)) (F13 : (El T24) → Option (Int)) (K : Nat) (a0 : ByteArray) : Nat → (List (ByteArray)) → Int → Int → Bool → (List (El T46)) → Option ((El T24) × Int)
  | 0, _, _, _, _, _ => none
  | n + 1, ps21, ps22, ps23, ph4_0, ph39 => b21_0 F33 F34 F35 F13 K a0 (L21_0 F33 F34 F35 F13 K a0 n) ps21 ps22 ps23 ph4_0 ph39
noncomputable def t21 (F33 : ByteArray → ByteArray → Option (Bool)) (F34 : ByteArray → ByteArray → Option (List (El .str))) (F35 : ByteArray → Option ((El T46) × Bool)) (F13 : (El T24) → Option (Int)) (K : Nat) (a0 : ByteArray) (l0 : Nat → (List (ByteArray)) → Int → Int → Bool → (List (El T46)) → Option ((El T24) × Int)) : Option ((El T24) × Int) := 
 (Option.bind (F33 a0 (ByteArray.mk (#[(63 : UInt8)]))) fun x0 => (if (a0.toList == (ByteArray.mk (#[])).toList) = true then some (((x0, []), (0 : Int)))
  else (if x0 = true then 
    (Option.bind (F34 a0 (ByteArray.mk (#[(63 : UInt8)]))) fun x1 => l0 K (x1) ((↑(List.length x1) : Int)) ((0 : Int)) (x0) ([]))
   else 
    (Option.bind (F34 a0 (ByteArray.mk (#[(44 : UInt8)]))) fun x2 => l0 K (x2) ((↑(List.length x2) : Int)) ((0 : Int)) (x0) ([])))))
noncomputable def G21 (F33 : ByteArray → ByteArray → Option (Bool)) (F34 : ByteArray → ByteArray → Option (List (El .str))) (F35 : ByteArray → Option ((El T46) × Bool)) (F13 : (El T24) → Option (Int)) (K : Nat) (a0 : ByteArray) : Option ((El T24) × Int) := t21 F33 F34 F35 F13 K a0 (L21_0 F33 F34 F35 F13 K a0)
theorem lp21_0 (F33 : ByteArray → ByteArray → Option (Bool)) (F34 : ByteArray → ByteArray → Option (List (El .str))) (F35 : ByteArray → Option ((El T46) × Bool)) (F13 : (El T24) → Option (Int)) (K : Nat) (a0 : ByteArray) : ∀ (n : Nat) (ps21 : List (ByteArray)) (ps22 : Int) (ps23 : Int) (ph4_0 : Bool) (ph39 : List (El T46)), loopN Tryd.prog (tab21 F33 F34 F35 F13) 0 K Tryd.f21 la21 dq21.k 0 [] n (hd21_0 a0 ps21 ps22 ps23 ph4_0 ph39) = L21_0 F33 F34 F35 F13 K a0 n ps21 ps22 ps23 ph4_0 ph39
  | 0, _, _, _, _, _ => by kernel_rfl
  | n + 1, ps21, ps22, ps23, ph4_0, ph39 => by
    have h : loopN Tryd.prog (tab21 F33 F34 F35 F13) 0 K Tryd.f21 la21 dq21.k 0 [] (n + 1) (hd21_0 a0 ps21 ps22 ps23 ph4_0 ph39) = b21_0 F33 F34 F35 F13 K a0 (fun q0 q1 q2 q3 q4 => loopN Tryd.prog (tab21 F33 F34 F35 F13) 0 K Tryd.f21 la21 dq21.k 0 [] n (hd21_0 a0 q0 q1 q2 q3 q4)) ps21 ps22 ps23 ph4_0 ph39 := by kernel_rfl
    rw [h]
    simp only [lp21_0 F33 F34 F35 F13 K a0 n]
    rfl
theorem ev21 (F33 : ByteArray → ByteArray → Option (Bool)) (F34 : ByteArray → ByteArray → Option (List (El .str))) (F35 : ByteArray → Option ((El T46) × Bool)) (F13 : (El T24) → Option (Int)) (K : Nat) (a0 : ByteArray) : evFun Tryd.prog (tab21 F33 F34 F35 F13) 0 K Tryd.f21 la21 [.sc (.string a0)] [] dq21.k = G21 F33 F34 F35 F13 K a0 := by
  have h : evFun Tryd.prog (tab21 F33 F34 F35 F13) 0 K Tryd.f21 la21 [.sc (.string a0)] [] dq21.k = t21 F33 F34 F35 F13 K a0 (fun k q0 q1 q2 q3 q4 => loopN Tryd.prog (tab21 F33 F34 F35 F13) 0 K Tryd.f21 la21 dq21.k 0 [] k (hd21_0 a0 q0 q1 q2 q3 q4)) := by kernel_rfl
  rw [h]
  simp only [lp21_0 F33 F34 F35 F13 K a0]
  rfl
noncomputable def F21 (K : Nat) (a0 : ByteArray) : Option ((El T24) × Int) := G21 (F33 K) (F34 K) (F35 K) (F13 K) K a0
theorem cok21 (K : Nat) : CallOK D Tryd.prog (tab21 (F33 K) (F34 K) (F35 K) (F13 K)) := (add_ok (add_ok (add_ok (add_ok none_ok ent33 (ok33 K)) ent34 (ok34 K)) ent35 (ok35 K)) ent13 (ok13 K))
theorem ok21 (K : Nat) : RowOK D Tryd.prog 21 (row ad21 dq21 fun p => F21 K p) := row_ok fun x r h => has_of (cok21 K) Tryd.func21 ((ev21 (F33 K) (F34 K) (F35 K) (F13 K) K x).trans h)
/-! ganger/depend.how$1 -/
noncomputable def tab55 : Tab := Tab.none
noncomputable def t55 (K : Nat) (a0 : El T54) (a1 : Int) : Option (Bool) := some (a0.1 == a1)
noncomputable def G55 (K : Nat) (a0 : El T54) (a1 : Int) : Option (Bool) := t55 K a0 a1
theorem ev55 (K : Nat) (a0 : El T54) (a1 : Int) : evFun Tryd.prog (tab55) 0 K Tryd.f55 [] [.agg (cellsOf T54 a0), .eptr (.int .u32) a1 0] [] dq55.k = G55 K a0 a1 := by
  kernel_rfl
noncomputable def F55 (K : Nat) (a0 : El T54) (a1 : Int) : Option (Bool) := G55 K a0 a1
theorem cok55 (K : Nat) : CallOK D Tryd.prog (tab55) := none_ok
theorem ok55 (K : Nat) : RowOK D Tryd.prog 55 (row ad55 dq55 fun p => F55 K p.1 p.2) := row_ok fun x r h => has_of (cok55 K) Tryd.func55 ((ev55 K x.1 x.2).trans h)
/-! slices.IndexFunc[[]ganger/api.Where,ganger/api.Where] -/
noncomputable def tab54 (F55 : (El T54) → Int → Option (Bool)) : Tab := (Tab.none.add 55 (row ad55 dq55 fun p => F55 p.1 p.2))
noncomputable def la54 : List (List Tidy) := [[.only [0, 1, 7, 8], .ids [7], .top [1000000]]]
noncomputable def hd54_0 (a0 : List (El T54)) (a1 : Int) (ps8 : Int) : St := { tm := slots (nat_lit 19) [(nat_lit 0, AV.row T54 a0), (nat_lit 1, AV.fn (nat_lit 55) [AV.eptr (Ty.int IntKind.u32) a1 (nat_lit 0)]), (nat_lit 7, AV.sc (Value.int IntKind.i64 (↑a0.length : Int))), (nat_lit 8, AV.sc (Value.int IntKind.i64 ps8))], H := [] }
noncomputable def b54_0 (F55 : (El T54) → Int → Option (Bool)) (K : Nat) (a0 : List (El T54)) (a1 : Int) (r0 : Int → Option (Int)) (ps8 : Int) : Option (Int) :=(if decide (ps8 < (↑a0.length : Int)) = true then (if decide ((0 : Int) ≤ ps8 ∧ ps8 < (↑a0.length : Int)) = true then 
    (Option.bind (F55 (a0.getD ps8.toNat (zEl T54)) a1) fun x0 => (if x0 = true then some (ps8)
     else r0 (IntKind.i64.wrap (ps8 + (1 : Int)))))
   else none)
  else some ((-1 : Int)))
noncomputable def L54_0 (F55 : (El T54) → Int → Option (Bool)) (K : Nat) (a0 : List (El T54)) (a1 : Int) : Nat → Int → Option (Int)
  | 0, _ => none
  | n + 1, ps8 => b54_0 F55 K a0 a1 (L54_0 F55 K a0 a1 n) ps8
noncomputable def t54 (F55 : (El T54) → Int → Option (Bool)) (K : Nat) (a0 : List (El T54)) (a1 : Int) (l0 : Nat → Int → Option (Int)) : Option (Int) := l0 K ((0 : Int))
noncomputable def G54 (F55 : (El T54) → Int → Option (Bool)) (K : Nat) (a0 : List (El T54)) (a1 : Int) : Option (Int) := t54 F55 K a0 a1 (L54_0 F55 K a0 a1)
theorem lp54_0 (F55 : (El T54) → Int → Option (Bool)) (K : Nat) (a0 : List (El T54)) (a1 : Int) : ∀ (n : Nat) (ps8 : Int), loopN Tryd.prog (tab54 F55) 0 K Tryd.f54 la54 dq54.k 0 [] n (hd54_0 a0 a1 ps8) = L54_0 F55 K a0 a1 n ps8
  | 0, _ => by kernel_rfl
  | n + 1, ps8 => by
    have h : loopN Tryd.prog (tab54 F55) 0 K Tryd.f54 la54 dq54.k 0 [] (n + 1) (hd54_0 a0 a1 ps8) = b54_0 F55 K a0 a1 (fun q0 => loopN Tryd.prog (tab54 F55) 0 K Tryd.f54 la54 dq54.k 0 [] n (hd54_0 a0 a1 q0)) ps8 := by kernel_rfl
    rw [h]
    simp only [lp54_0 F55 K a0 a1 n]
    rfl
theorem ev54 (F55 : (El T54) → Int → Option (Bool)) (K : Nat) (a0 : List (El T54)) (a1 : Int) : evFun Tryd.prog (tab54 F55) 0 K Tryd.f54 la54 [.row T54 a0, .fn 55 [.eptr (.int .u32) a1 0]] [] dq54.k = G54 F55 K a0 a1 := by
  have h : evFun Tryd.prog (tab54 F55) 0 K Tryd.f54 la54 [.row T54 a0, .fn 55 [.eptr (.int .u32) a1 0]] [] dq54.k = t54 F55 K a0 a1 (fun k q0 => loopN Tryd.prog (tab54 F55) 0 K Tryd.f54 la54 dq54.k 0 [] k (hd54_0 a0 a1 q0)) := by kernel_rfl
  rw [h]
  simp only [lp54_0 F55 K a0 a1]
  rfl
noncomputable def F54 (K : Nat) (a0 : List (El T54)) (a1 : Int) : Option (Int) := G54 (F55 K) K a0 a1
theorem cok54 (K : Nat) : CallOK D Tryd.prog (tab54 (F55 K)) := (add_ok none_ok ent55 (ok55 K))
theorem ok54 (K : Nat) : RowOK D Tryd.prog 54 (row ad54 dq54 fun p => F54 K p.1 p.2) := row_ok fun x r h => has_of (cok54 K) Tryd.func54 ((ev54 (F55 K) K x.1 x.2).trans h)
/-! ganger/depend.how -/
noncomputable def tab39 (F54 : (List (El T54)) → Int → Option (Int)) : Tab := (Tab.none.add 54 (row ad54 dq54 fun p => F54 p.1 p.2))
noncomputable def t39 (F54 : (List (El T54)) → Int → Option (Int)) (K : Nat) (a0 : List (El T54)) (a1 : Int) : Option (Int) := 
 (Option.bind (F54 a0 a1) fun x0 => (if decide (x0 < (0 : Int)) = true then some ((0 : Int))
  else (if decide ((0 : Int) ≤ x0 ∧ x0 < (↑a0.length : Int)) = true then (if decide ((a0.getD (Int.toNat x0) (zEl T54)).2 < (1 : Int)) = true then some ((0 : Int))
    else (if decide ((0 : Int) ≤ x0 ∧ x0 < (↑a0.length : Int)) = true then (if decide ((a0.getD (Int.toNat x0) (zEl T54)).2 > (4 : Int)) = true then some ((0 : Int))
      else (if decide ((0 : Int) ≤ x0 ∧ x0 < (↑a0.length : Int)) = true then some ((a0.getD (Int.toNat x0) (zEl T54)).2)
       else none))
     else none))
   else none)))
noncomputable def G39 (F54 : (List (El T54)) → Int → Option (Int)) (K : Nat) (a0 : List (El T54)) (a1 : Int) : Option (Int) := t39 F54 K a0 a1
theorem ev39 (F54 : (List (El T54)) → Int → Option (Int)) (K : Nat) (a0 : List (El T54)) (a1 : Int) : evFun Tryd.prog (tab39 F54) 0 K Tryd.f39 [] [.row T54 a0, I .u32 a1] [] dq39.k = G39 F54 K a0 a1 := by
  kernel_rfl
noncomputable def F39 (K : Nat) (a0 : List (El T54)) (a1 : Int) : Option (Int) := G39 (F54 K) K a0 a1
theorem cok39 (K : Nat) : CallOK D Tryd.prog (tab39 (F54 K)) := (add_ok none_ok ent54 (ok54 K))
theorem ok39 (K : Nat) : RowOK D Tryd.prog 39 (row ad39 dq39 fun p => F39 K p.1 p.2) := row_ok fun x r h => has_of (cok39 K) Tryd.func39 ((ev39 (F54 K) K x.1 x.2).trans h)
end Go.Proofs.YtigekmmdflaeaaaDoorE
