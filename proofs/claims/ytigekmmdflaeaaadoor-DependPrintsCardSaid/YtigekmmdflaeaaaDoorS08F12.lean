import Derived.Test.YtigekmmdflaeaaaDoorS08F11
set_option linter.all false
namespace Go.Proofs.YtigekmmdflaeaaaDoorE
open Go Go.Proofs
set_option maxRecDepth 100000
set_option linter.unusedVariables false
variable {D : Cx}
/-! ganger/gangerlaw08.DependStays -/
noncomputable def tab7 (F10 : (El T24) → (List (El T54)) → Option (Bool)) (F13 : (El T24) → Option (Int)) (F11 : Option (Bool)) (F23 : (El T24) → (List (El T54)) → Bool → Option (Int)) : Tab := ((((Tab.none.add 10 (row ad10 dq10 fun p => F10 p.1 p.2)).add 13 (row ad13 dq13 fun p => F13 p)).add 11 (row ad11 dq11 fun p => F11)).add 23 (row ad23 dq23 fun p => F23 p.1 p.2.1 p.2.2))
noncomputable def la7 : List (List Tidy) := [[.only [1, 2, 3, 4, 9, 10], .pro 9 49 54 (T54), .ids [4, 19, 22, 25, 49, 53, 56, 64, 75, 109, 120, 144], .top [1000000]], [.only [2, 3, 4, 9, 11, 12], .ids [4, 19, 22, 25, 28, 48, 49, 53, 120, 144], .top [1000001]], [.only [3, 9, 11, 15, 16], .ids [4, 19, 22, 25, 28, 48, 49, 53, 56, 64, 75, 109, 144], .top [1000002]]]
noncomputable def hd7_0 (a0 : El T24) (a1 : List (El T54)) (a2 : List (El (.int .u8))) (a3 : Bool) (ps10 : Int) (ph49 : List (El T54)) : St := { tm := slots (nat_lit 146) [(nat_lit 1, AV.row T54 a1), (nat_lit 2, AV.row (Ty.int IntKind.u8) a2), (nat_lit 3, AV.sc (Value.bool a3)), (nat_lit 4, AV.ptr (nat_lit 4) (nat_lit 0)), (nat_lit 9, AV.own (nat_lit 49)), (nat_lit 10, AV.sc (Value.int IntKind.i64 ps10))], H := [(nat_lit 4, ABlk.box (nat_lit 24) (cellsOf T24 a0)), (nat_lit 49, ABlk.arr (nat_lit 54) T54 ph49)] }
noncomputable def hd7_1 (a0 : El T24) (a1 : List (El T54)) (a2 : List (El (.int .u8))) (a3 : Bool) (ps11 : Int) (ps12 : Int) (ph49 : List (El T54)) : St := { tm := slots (nat_lit 146) [(nat_lit 2, AV.row (Ty.int IntKind.u8) a2), (nat_lit 3, AV.sc (Value.bool a3)), (nat_lit 4, AV.ptr (nat_lit 4) (nat_lit 0)), (nat_lit 9, AV.own (nat_lit 49)), (nat_lit 11, AV.sc (Value.int IntKind.i64 ps11)), (nat_lit 12, AV.sc (Value.int IntKind.i64 ps12))], H := [(nat_lit 4, ABlk.box (nat_lit 24) (cellsOf T24 a0)), (nat_lit 49, ABlk.arr (nat_lit 54) T54 ph49)] }
noncomputable def hd7_2 (a0 : El T24) (a1 : List (El T54)) (a2 : List (El (.int .u8))) (a3 : Bool) (ps11 : Int) (ps15 : Bool) (ps16 : Int) (ph49 : List (El T54)) : St := { tm := slots (nat_lit 146) [(nat_lit 3, AV.sc (Value.bool a3)), (nat_lit 9, AV.own (nat_lit 49)), (nat_lit 11, AV.sc (Value.int IntKind.i64 ps11)), (nat_lit 15, AV.sc (Value.bool ps15)), (nat_lit 16, AV.sc (Value.int IntKind.i64 ps16))], H := [(nat_lit 4, ABlk.box (nat_lit 24) (cellsOf T24 a0)), (nat_lit 49, ABlk.arr (nat_lit 54) T54 ph49)] }
noncomputable def b7_2 (F10 : (El T24) → (List (El T54)) → Option (Bool)) (F13 : (El T24) → Option (Int)) (F11 : Option (Bool)) (F23 : (El T24) → (List (El T54)) → Bool → Option (Int)) (K : Nat) (a0 : El T24) (a1 : List (El T54)) (a2 : List (El (.int .u8))) (a3 : Bool) (r2 : Int → Bool → Int → (List (El T54)) → Option (Bool)) (ps11 : Int) (ps15 : Bool) (ps16 : Int) (ph49 : List (El T54)) : Option (Bool) :=(if decide (ps16 < (↑ph49.length : Int)) = true then (if ps15 = true then (if decide ((0 : Int) ≤ ps16 ∧ ps16 < (↑ph49.length : Int)) = true then r2 (ps11) (decide ((ph49.getD ps16.toNat (zEl T54)).2 ≥ (3 : Int))) (IntKind.i64.wrap (ps16 + (1 : Int))) (ph49)
    else none)
   else r2 (ps11) (false) (IntKind.i64.wrap (ps16 + (1 : Int))) (ph49))
  else (if (!ps15) = true then 
    (Option.bind (F11) fun x8 => some (x8))
   else (if (!a3) = true then 
     (Option.bind (F11) fun x9 => some (x9))
    else (if (ps11 != (1 : Int)) = true then 
      (Option.bind (F11) fun x10 => some (x10))
     else some (false)))))
noncomputable def L7_2 (F10 : (El T24) → (List (El T54)) → Option (Bool)) (F13 : (El T24) → Option (Int)) (F11 : Option (Bool)) (F23 : (El T24) → (List (El T54)) → Bool → Option (Int)) (K : Nat) (a0 : El T24) (a1 : List (El T54)) (a2 : List (El (.int .u8))) (a3 : Bool) : Nat → Int → Bool → Int → (List (El T54)) → Option (Bool)
  | 0, _, _, _, _ => none
  | n + 1, ps11, ps15, ps16, ph49 => b7_2 F10 F13 F11 F23 K a0 a1 a2 a3 (L7_2 F10 F13 F11 F23 K a0 a1 a2 a3 n) ps11 ps15 ps16 ph49
noncomputable def b7_1 (F10 : (El T24) → (List (El T54)) → Option (Bool)) (F13 : (El T24) → Option (Int)) (F11 : Option (Bool)) (F23 : (El T24) → (List (El T54)) → Bool → Option (Int)) (K : Nat) (a0 : El T24) (a1 : List (El T54)) (a2 : List (El (.int .u8))) (a3 : Bool) (r1 : Int → Int → (List (El T54)) → Option (Bool)) (l2 : Nat → Int → Bool → Int → (List (El T54)) → Option (Bool)) (ps11 : Int) (ps12 : Int) (ph49 : List (El T54)) : Option (Bool) :=(if decide (ps12 < (↑a2.length : Int)) = true then (if decide (ps12 < (40 : Int)) = true then (if decide ((↑ph49.length : Int) > (0 : Int)) = true then (if decide ((0 : Int) ≤ ps12 ∧ ps12 < (↑a2.length : Int)) = true then (if (!(↑ph49.length : Int) == (0 : Int)) = true then (if decide ((0 : Int) ≤ (IntKind.i64.wrap (a2.getD ps12.toNat (zEl (Ty.int IntKind.u8)))).tmod (↑ph49.length : Int) ∧ (IntKind.i64.wrap (a2.getD ps12.toNat (zEl (Ty.int IntKind.u8)))).tmod (↑ph49.length : Int) < (↑ph49.length : Int)) = true then (if ((ph49.getD ((IntKind.i64.wrap (a2.getD ps12.toNat (zEl (Ty.int IntKind.u8)))).tmod (↑ph49.length : Int)).toNat (zEl T54)).2 == (1 : Int)) = true then (if decide ((0 : Int) ≤ (IntKind.i64.wrap (a2.getD ps12.toNat (zEl (Ty.int IntKind.u8)))).tmod (↑ph49.length : Int) ∧ (IntKind.i64.wrap (a2.getD ps12.toNat (zEl (Ty.int IntKind.u8)))).tmod (↑ph49.length : Int) < (↑ph49.length : Int)) = true then 
          (Option.bind (F23 a0 (ph49.set ((IntKind.i64.wrap (a2.getD ps12.toNat (zEl (Ty.int IntKind.u8)))).tmod (↑ph49.length : Int)).toNat ((ph49.getD ((IntKind.i64.wrap (a2.getD ps12.toNat (zEl (Ty.int IntKind.u8)))).tmod (↑ph49.length : Int)).toNat (zEl T54)).1, (2 : Int))) a3) fun x5 => (if (ps11 != (1 : Int)) = true then (if (x5 != ps11) = true then some (false)
            else r1 (x5) (IntKind.i64.wrap (ps12 + (1 : Int))) (ph49.set ((IntKind.i64.wrap (a2.getD ps12.toNat (zEl (Ty.int IntKind.u8)))).tmod (↑ph49.length : Int)).toNat ((ph49.getD ((IntKind.i64.wrap (a2.getD ps12.toNat (zEl (Ty.int IntKind.u8)))).tmod (↑ph49.length : Int)).toNat (zEl T54)).1, (2 : Int))))
           else r1 (x5) (IntKind.i64.wrap (ps12 + (1 : Int))) (ph49.set ((IntKind.i64.wrap (a2.getD ps12.toNat (zEl (Ty.int IntKind.u8)))).tmod (↑ph49.length : Int)).toNat ((ph49.getD ((IntKind.i64.wrap (a2.getD ps12.toNat (zEl (Ty.int IntKind.u8)))).tmod (↑ph49.length : Int)).toNat (zEl T54)).1, (2 : Int)))))
         else none)
        else (if decide ((0 : Int) ≤ (IntKind.i64.wrap (a2.getD ps12.toNat (zEl (Ty.int IntKind.u8)))).tmod (↑ph49.length : Int) ∧ (IntKind.i64.wrap (a2.getD ps12.toNat (zEl (Ty.int IntKind.u8)))).tmod (↑ph49.length : Int) < (↑ph49.length : Int)) = true then (if ((ph49.getD ((IntKind.i64.wrap (a2.getD ps12.toNat (zEl (Ty.int IntKind.u8)))).tmod (↑ph49.length : Int)).toNat (zEl T54)).2 == (2 : Int)) = true then (if decide ((0 : Int) ≤ ps12 ∧ ps12 < (↑a2.length : Int)) = true then (if decide ((0 : Int) ≤ (IntKind.i64.wrap (a2.getD ps12.toNat (zEl (Ty.int IntKind.u8)))).tmod (↑ph49.length : Int) ∧ (IntKind.i64.wrap (a2.getD ps12.toNat (zEl (Ty.int IntKind.u8)))).tmod (↑ph49.length : Int) < (↑ph49.length : Int)) = true then 
             (Option.bind (F23 a0 (ph49.set ((IntKind.i64.wrap (a2.getD ps12.toNat (zEl (Ty.int IntKind.u8)))).tmod (↑ph49.length : Int)).toNat ((ph49.getD ((IntKind.i64.wrap (a2.getD ps12.toNat (zEl (Ty.int IntKind.u8)))).tmod (↑ph49.length : Int)).toNat (zEl T54)).1, IntKind.i64.wrap ((3 : Int) + IntKind.i64.wrap ((IntKind.i64.wrap (a2.getD ps12.toNat (zEl (Ty.int IntKind.u8)))).tdiv (128 : Int))))) a3) fun x6 => (if (ps11 != (1 : Int)) = true then (if (x6 != ps11) = true then some (false)
               else r1 (x6) (IntKind.i64.wrap (ps12 + (1 : Int))) (ph49.set ((IntKind.i64.wrap (a2.getD ps12.toNat (zEl (Ty.int IntKind.u8)))).tmod (↑ph49.length : Int)).toNat ((ph49.getD ((IntKind.i64.wrap (a2.getD ps12.toNat (zEl (Ty.int IntKind.u8)))).tmod (↑ph49.length : Int)).toNat (zEl T54)).1, IntKind.i64.wrap ((3 : Int) + IntKind.i64.wrap ((IntKind.i64.wrap (a2.getD ps12.toNat (zEl (Ty.int IntKind.u8)))).tdiv (128 : Int))))))
              else r1 (x6) (IntKind.i64.wrap (ps12 + (1 : Int))) (ph49.set ((IntKind.i64.wrap (a2.getD ps12.toNat (zEl (Ty.int IntKind.u8)))).tmod (↑ph49.length : Int)).toNat ((ph49.getD ((IntKind.i64.wrap (a2.getD ps12.toNat (zEl (Ty.int IntKind.u8)))).tmod (↑ph49.length : Int)).toNat (zEl T54)).1, IntKind.i64.wrap ((3 : Int) + IntKind.i64.wrap ((IntKind.i64.wrap (a2.getD ps12.toNat (zEl (Ty.int IntKind.u8)))).tdiv (128 : Int)))))))
            else none)
           else none)
          else 
           (Option.bind (F23 a0 ph49 a3) fun x7 => (if (ps11 != (1 : Int)) = true then (if (x7 != ps11) = true then some (false)
             else r1 (x7) (IntKind.i64.wrap (ps12 + (1 : Int))) (ph49))
            else r1 (x7) (IntKind.i64.wrap (ps12 + (1 : Int))) (ph49))))
         else none))
       else none)
      else none)
     else none)
    else l2 K (ps11) (true) ((0 : Int)) (ph49))
   else l2 K (ps11) (true) ((0 : Int)) (ph49))
  else l2 K (ps11) (true) ((0 : Int)) (ph49))
noncomputable def L7_1 (F10 : (El T24) → (List (El T54)) → Option (Bool)) (F13 : (El T24) → Option (Int)) (F11 : Option (Bool)) (F23 : (El T24) → (List (El T54)) → Bool → Option (Int)) (K : Nat) (a0 : El T24) (a1 : List (El T54)) (a2 : List (El (.int .u8))) (a3 : Bool) : Nat → Int → Int → (List (El T54)) → Option (Bool)
  | 0, _, _, _ => none
  | n + 1, ps11, ps12, ph49 => b7_1 F10 F13 F11 F23 K a0 a1 a2 a3 (L7_1 F10 F13 F11 F23 K a0 a1 a2 a3 n) (L7_2 F10 F13 F11 F23 K a0 a1 a2 a3) ps11 ps12 ph49
noncomputable def b7_0 (F10 : (El T24) → (List (El T54)) → Option (Bool)) (F13 : (El T24) → Option (Int)) (F11 : Option (Bool)) (F23 : (El T24) → (List (El T54)) → Bool → Option (Int)) (K : Nat) (a0 : El T24) (a1 : List (El T54)) (a2 : List (El (.int .u8))) (a3 : Bool) (r0 : Int → (List (El T54)) → Option (Bool)) (l1 : Nat → Int → Int → (List (El T54)) → Option (Bool)) (ps10 : Int) (ph49 : List (El T54)) : Option (Bool) :=(if decide (ps10 < (↑a1.length : Int)) = true then (if decide ((0 : Int) ≤ ps10 ∧ ps10 < (↑a1.length : Int)) = true then (if decide ((0 : Int) ≤ ps10 ∧ ps10 < (↑a1.length : Int)) = true then (if decide ((ph49.length + [((a1.getD ps10.toNat (zEl T54)).1, IntKind.i64.wrap ((1 : Int) + IntKind.i64.wrap ((IntKind.u64.wrap (a1.getD ps10.toNat (zEl T54)).2).tmod (4 : Int))))].length) * Tryd.prog.types[(54 : Nat)].bytes ≤ (140737488355328 : Nat)) = true then r0 (IntKind.i64.wrap (ps10 + (1 : Int))) (ph49 ++ [((a1.getD ps10.toNat (zEl T54)).1, IntKind.i64.wrap ((1 : Int) + IntKind.i64.wrap ((IntKind.u64.wrap (a1.getD ps10.toNat (zEl T54)).2).tmod (4 : Int))))])
     else none)
    else none)
   else none)
  else 
   (Option.bind (F23 a0 ph49 a3) fun x4 => l1 K (x4) ((0 : Int)) (ph49)))
noncomputable def L7_0 (F10 : (El T24) → (List (El T54)) → Option (Bool)) (F13 : (El T24) → Option (Int)) (F11 : Option (Bool)) (F23 : (El T24) → (List (El T54)) → Bool → Option (Int)) (K : Nat) (a0 : El T24) (a1 : List (El T54)) (a2 : List (El (.int .u8))) (a3 : Bool) : Nat → Int → (List (El T54)) → Option (Bool)
  | 0, _, _ => none
  | n + 1, ps10, ph49 => b7_0 F10 F13 F11 F23 K a0 a1 a2 a3 (L7_0 F10 F13 F11 F23 K a0 a1 a2 a3 n) (L7_1 F10 F13 F11 F23 K a0 a1 a2 a3) ps10 ph49
noncomputable def t7 (F10 : (El T24) → (List (El T54)) → Option (Bool)) (F13 : (El T24) → Option (Int)) (F11 : Option (Bool)) (F23 : (El T24) → (List (El T54)) → Bool → Option (Int)) (K : Nat) (a0 : El T24) (a1 : List (El T54)) (a2 : List (El (.int .u8))) (a3 : Bool) (l0 : Nat → Int → (List (El T54)) → Option (Bool)) : Option (Bool) := 
 (Option.bind (F10 a0 a1) fun x0 => (if x0 = true then 
   (Option.bind (F11) fun x1 => some (x1))
  else 
   (Option.bind (F13 a0) fun x2 => (if (x2 != (0 : Int)) = true then 
     (Option.bind (F11) fun x3 => some (x3))
    else l0 K ((0 : Int)) ([])))))
noncomputable def G7 (F10 : (El T24) → (List (El T54)) → Option (Bool)) (F13 : (El T24) → Option (Int)) (F11 : Option (Bool)) (F23 : (El T24) → (List (El T54)) → Bool → Option (Int)) (K : Nat) (a0 : El T24) (a1 : List (El T54)) (a2 : List (El (.int .u8))) (a3 : Bool) : Option (Bool) := t7 F10 F13 F11 F23 K a0 a1 a2 a3 (L7_0 F10 F13 F11 F23 K a0 a1 a2 a3)
theorem lp7_2 (F10 : (El T24) → (List (El T54)) → Option (Bool)) (F13 : (El T24) → Option (Int)) (F11 : Option (Bool)) (F23 : (El T24) → (List (El T54)) → Bool → Option (Int)) (K : Nat) (a0 : El T24) (a1 : List (El T54)) (a2 : List (El (.int .u8))) (a3 : Bool) : ∀ (n : Nat) (ps11 : Int) (ps15 : Bool) (ps16 : Int) (ph49 : List (El T54)), loopN Tryd.prog (tab7 F10 F13 F11 F23) 0 K Tryd.f7 la7 dq7.k 2 [] n (hd7_2 a0 a1 a2 a3 ps11 ps15 ps16 ph49) = L7_2 F10 F13 F11 F23 K a0 a1 a2 a3 n ps11 ps15 ps16 ph49
  | 0, _, _, _, _ => by kernel_rfl
  | n + 1, ps11, ps15, ps16, ph49 => by
    have h : loopN Tryd.prog (tab7 F10 F13 F11 F23) 0 K Tryd.f7 la7 dq7.k 2 [] (n + 1) (hd7_2 a0 a1 a2 a3 ps11 ps15 ps16 ph49) = b7_2 F10 F13 F11 F23 K a0 a1 a2 a3 (fun q0 q1 q2 q3 => loopN Tryd.prog (tab7 F10 F13 F11 F23) 0 K Tryd.f7 la7 dq7.k 2 [] n (hd7_2 a0 a1 a2 a3 q0 q1 q2 q3)) ps11 ps15 ps16 ph49 := by kernel_rfl
    rw [h]
    simp only [lp7_2 F10 F13 F11 F23 K a0 a1 a2 a3 n]
    rfl
theorem lp7_1 (F10 : (El T24) → (List (El T54)) → Option (Bool)) (F13 : (El T24) → Option (Int)) (F11 : Option (Bool)) (F23 : (El T24) → (List (El T54)) → Bool → Option (Int)) (K : Nat) (a0 : El T24) (a1 : List (El T54)) (a2 : List (El (.int .u8))) (a3 : Bool) : ∀ (n : Nat) (ps11 : Int) (ps12 : Int) (ph49 : List (El T54)), loopN Tryd.prog (tab7 F10 F13 F11 F23) 0 K Tryd.f7 la7 dq7.k 1 [] n (hd7_1 a0 a1 a2 a3 ps11 ps12 ph49) = L7_1 F10 F13 F11 F23 K a0 a1 a2 a3 n ps11 ps12 ph49
  | 0, _, _, _ => by kernel_rfl
  | n + 1, ps11, ps12, ph49 => by
    have h : loopN Tryd.prog (tab7 F10 F13 F11 F23) 0 K Tryd.f7 la7 dq7.k 1 [] (n + 1) (hd7_1 a0 a1 a2 a3 ps11 ps12 ph49) = b7_1 F10 F13 F11 F23 K a0 a1 a2 a3 (fun q0 q1 q2 => loopN Tryd.prog (tab7 F10 F13 F11 F23) 0 K Tryd.f7 la7 dq7.k 1 [] n (hd7_1 a0 a1 a2 a3 q0 q1 q2)) (fun k q0 q1 q2 q3 => loopN Tryd.prog (tab7 F10 F13 F11 F23) 0 K Tryd.f7 la7 dq7.k 2 [] k (hd7_2 a0 a1 a2 a3 q0 q1 q2 q3)) ps11 ps12 ph49 := by kernel_rfl
    rw [h]
    simp only [lp7_1 F10 F13 F11 F23 K a0 a1 a2 a3 n, lp7_2 F10 F13 F11 F23 K a0 a1 a2 a3]
    rfl
theorem lp7_0 (F10 : (El T24) → (List (El T54)) → Option (Bool)) (F13 : (El T24) → Option (Int)) (F11 : Option (Bool)) (F23 : (El T24) → (List (El T54)) → Bool → Option (Int)) (K : Nat) (a0 : El T24) (a1 : List (El T54)) (a2 : List (El (.int .u8))) (a3 : Bool) : ∀ (n : Nat) (ps10 : Int) (ph49 : List (El T54)), loopN Tryd.prog (tab7 F10 F13 F11 F23) 0 K Tryd.f7 la7 dq7.k 0 [] n (hd7_0 a0 a1 a2 a3 ps10 ph49) = L7_0 F10 F13 F11 F23 K a0 a1 a2 a3 n ps10 ph49
  | 0, _, _ => by kernel_rfl
  | n + 1, ps10, ph49 => by
    have h : loopN Tryd.prog (tab7 F10 F13 F11 F23) 0 K Tryd.f7 la7 dq7.k 0 [] (n + 1) (hd7_0 a0 a1 a2 a3 ps10 ph49) = b7_0 F10 F13 F11 F23 K a0 a1 a2 a3 (fun q0 q1 => loopN Tryd.prog (tab7 F10 F13 F11 F23) 0 K Tryd.f7 la7 dq7.k 0 [] n (hd7_0 a0 a1 a2 a3 q0 q1)) (fun k q0 q1 q2 => loopN Tryd.prog (tab7 F10 F13 F11 F23) 0 K Tryd.f7 la7 dq7.k 1 [] k (hd7_1 a0 a1 a2 a3 q0 q1 q2)) ps10 ph49 := by kernel_rfl
    rw [h]
    simp only [lp7_0 F10 F13 F11 F23 K a0 a1 a2 a3 n, lp7_1 F10 F13 F11 F23 K a0 a1 a2 a3]
    rfl
theorem ev7 (F10 : (El T24) → (List (El T54)) → Option (Bool)) (F13 : (El T24) → Option (Int)) (F11 : Option (Bool)) (F23 : (El T24) → (List (El T54)) → Bool → Option (Int)) (K : Nat) (a0 : El T24) (a1 : List (El T54)) (a2 : List (El (.int .u8))) (a3 : Bool) : evFun Tryd.prog (tab7 F10 F13 F11 F23) 0 K Tryd.f7 la7 [.agg (cellsOf T24 a0), .row T54 a1, .row (.int .u8) a2, B a3] [] dq7.k = G7 F10 F13 F11 F23 K a0 a1 a2 a3 := by
  have h : evFun Tryd.prog (tab7 F10 F13 F11 F23) 0 K Tryd.f7 la7 [.agg (cellsOf T24 a0), .row T54 a1, .row (.int .u8) a2, B a3] [] dq7.k = t7 F10 F13 F11 F23 K a0 a1 a2 a3 (fun k q0 q1 => loopN Tryd.prog (tab7 F10 F13 F11 F23) 0 K Tryd.f7 la7 dq7.k 0 [] k (hd7_0 a0 a1 a2 a3 q0 q1)) := by kernel_rfl
  rw [h]
  simp only [lp7_0 F10 F13 F11 F23 K a0 a1 a2 a3]
  rfl
noncomputable def F7 (K : Nat) (a0 : El T24) (a1 : List (El T54)) (a2 : List (El (.int .u8))) (a3 : Bool) : Option (Bool) := G7 (F10 K) (F13 K) (F11 K) (F23 K) K a0 a1 a2 a3
theorem cok7 (K : Nat) : CallOK cxT Tryd.prog (tab7 (F10 K) (F13 K) (F11 K) (F23 K)) := (add_ok (add_ok (add_ok (add_ok none_ok ent10 (ok10 K)) ent13 (ok13 K)) ent11 (ok11 K)) ent23 (ok23 K))
theorem ok7 (K : Nat) : RowOK cxT Tryd.prog 7 (row ad7 dq7 fun p => F7 K p.1 p.2.1 p.2.2.1 p.2.2.2) := row_ok fun x r h => has_of (cok7 K) Tryd.func7 ((ev7 (F10 K) (F13 K) (F11 K) (F23 K) K x.1 x.2.1 x.2.2.1 x.2.2.2).trans h)
/-! ganger/gangerlaw08.DependEmpty -/
noncomputable def tab9 (F10 : (El T24) → (List (El T54)) → Option (Bool)) (F11 : Option (Bool)) (F14 : (El T24) → Option (ByteArray × Int)) (F21 : ByteArray → Option ((El T24) × Int)) (F23 : (El T24) → (List (El T54)) → Bool → Option (Int)) (F13 : (El T24) → Option (Int)) (F16 : (El T24) → Option (List (El (.int .u32)))) : Tab := (((((((Tab.none.add 10 (row ad10 dq10 fun p => F10 p.1 p.2)).add 11 (row ad11 dq11 fun p => F11)).add 14 (row ad14 dq14 fun p => F14 p)).add 21 (row ad21 dq21 fun p => F21 p)).add 23 (row ad23 dq23 fun p => F23 p.1 p.2.1 p.2.2)).add 13 (row ad13 dq13 fun p => F13 p)).add 16 (row ad16 dq16 fun p => F16 p))
noncomputable def t9 (F10 : (El T24) → (List (El T54)) → Option (Bool)) (F11 : Option (Bool)) (F14 : (El T24) → Option (ByteArray × Int)) (F21 : ByteArray → Option ((El T24) × Int)) (F23 : (El T24) → (List (El T54)) → Bool → Option (Int)) (F13 : (El T24) → Option (Int)) (F16 : (El T24) → Option (List (El (.int .u32)))) (K : Nat) (a0 : El T24) (a1 : List (El T54)) (a2 : Bool) : Option (Bool) := 
 (Option.bind (F10 a0 a1) fun x0 => (if x0 = true then 
   (Option.bind (F11) fun x1 => some (x1))
  else 
   (Option.bind (F14 (false, [])) fun x2 => 
    (Option.bind (F21 (ByteArray.mk (#[]))) fun x3 => (if (!x2.1.toList == (ByteArray.mk (#[])).toList) = true then some (false)
     else (if (x2.2 != (0 : Int)) = true then some (false)
      else (if (x3.2 != (0 : Int)) = true then some (false)
       else (if ((↑(List.length x3.1.2) : Int) != (0 : Int)) = true then some (false)
        else (if x3.1.1 = true then some (false)
         else 
          (Option.bind (F23 x3.1 a1 a2) fun x4 => (if (x4 != (2 : Int)) = true then some (false)
           else 
            (Option.bind (F13 a0) fun x5 => (if (x5 != (0 : Int)) = true then 
              (Option.bind (F23 a0 a1 a2) fun x6 => (if (x6 == (0 : Int)) = true then 
                (Option.bind (F16 a0) fun x7 => (if ((↑(List.length x7) : Int) == (0 : Int)) = true then 
                  (Option.bind (F11) fun x8 => some (x8))
                 else some (false)))
               else some (false)))
             else 
              (Option.bind (F23 a0 a1 a2) fun x9 => (if decide (x9 ≥ (1 : Int)) = true then (if decide (x9 ≤ (3 : Int)) = true then 
                 (Option.bind (F11) fun x10 => some (x10))
                else some (false))
               else some (false))))))))))))))))
noncomputable def G9 (F10 : (El T24) → (List (El T54)) → Option (Bool)) (F11 : Option (Bool)) (F14 : (El T24) → Option (ByteArray × Int)) (F21 : ByteArray → Option ((El T24) × Int)) (F23 : (El T24) → (List (El T54)) → Bool → Option (Int)) (F13 : (El T24) → Option (Int)) (F16 : (El T24) → Option (List (El (.int .u32)))) (K : Nat) (a0 : El T24) (a1 : List (El T54)) (a2 : Bool) : Option (Bool) := t9 F10 F11 F14 F21 F23 F13 F16 K a0 a1 a2
theorem ev9 (F10 : (El T24) → (List (El T54)) → Option (Bool)) (F11 : Option (Bool)) (F14 : (El T24) → Option (ByteArray × Int)) (F21 : ByteArray → Option ((El T24) × Int)) (F23 : (El T24) → (List (El T54)) → Bool → Option (Int)) (F13 : (El T24) → Option (Int)) (F16 : (El T24) → Option (List (El (.int .u32)))) (K : Nat) (a0 : El T24) (a1 : List (El T54)) (a2 : Bool) : evFun Tryd.prog (tab9 F10 F11 F14 F21 F23 F13 F16) 0 K Tryd.f9 [] [.agg (cellsOf T24 a0), .row T54 a1, B a2] [] dq9.k = G9 F10 F11 F14 F21 F23 F13 F16 K a0 a1 a2 := by
  kernel_rfl
noncomputable def F9 (K : Nat) (a0 : El T24) (a1 : List (El T54)) (a2 : Bool) : Option (Bool) := G9 (F10 K) (F11 K) (F14 K) (F21 K) (F23 K) (F13 K) (F16 K) K a0 a1 a2
theorem cok9 (K : Nat) : CallOK cxT Tryd.prog (tab9 (F10 K) (F11 K) (F14 K) (F21 K) (F23 K) (F13 K) (F16 K)) := (add_ok (add_ok (add_ok (add_ok (add_ok (add_ok (add_ok none_ok ent10 (ok10 K)) ent11 (ok11 K)) ent14 (ok14 K)) ent21 (ok21 K)) ent23 (ok23 K)) ent13 (ok13 K)) ent16 (ok16 K))
theorem ok9 (K : Nat) : RowOK cxT Tryd.prog 9 (row ad9 dq9 fun p => F9 K p.1 p.2.1 p.2.2) := row_ok fun x r h => has_of (cok9 K) Tryd.func9 ((ev9 (F10 K) (F11 K) (F14 K) (F21 K) (F23 K) (F13 K) (F16 K) K x.1 x.2.1 x.2.2).trans h)
/-! ganger/gangerref08.SameJobs -/
noncomputable def tab19 : Tab := Tab.none
noncomputable def la19 : List (List Tidy) := [[.only [0, 1, 5], .ids [7, 9], .top [1000000]]]
noncomputable def hd19_0 (a0 : List (El (.int .u32))) (a1 : List (El (.int .u32))) (ps5 : Int) : St := { tm := slots (nat_lit 26) [(nat_lit 0, AV.row (Ty.int IntKind.u32) a0), (nat_lit 1, AV.row (Ty.int IntKind.u32) a1), (nat_lit 5, AV.sc (Value.int IntKind.i64 ps5))], H := [] }
noncomputable def b19_0 (K : Nat) (a0 : List (El (.int .u32))) (a1 : List (El (.int .u32))) (r0 : Int → Option (Bool)) (ps5 : Int) : Option (Bool) :=(if decide (ps5 < (↑a0.length : Int)) = true then (if decide ((0 : Int) ≤ ps5 ∧ ps5 < (↑a0.length : Int)) = true then (if decide ((0 : Int) ≤ ps5 ∧ ps5 < (↑a1.length : Int)) = true then (if (a0.getD ps5.toNat (zEl (Ty.int IntKind.u32)) != a1.getD ps5.toNat (zEl (Ty.int IntKind.u32))) = true then some (false)
     else r0 (IntKind.i64.wrap (ps5 + (1 : Int))))
    else none)
   else none)
  else some (true))
noncomputable def L19_0 (K : Nat) (a0 : List (El (.int .u32))) (a1 : List (El (.int .u32))) : Nat → Int → Option (Bool)
  | 0, _ => none
  | n + 1, ps5 => b19_0 K a0 a1 (L19_0 K a0 a1 n) ps5
noncomputable def t19 (K : Nat) (a0 : List (El (.int .u32))) (a1 : List (El (.int .u32))) (l0 : Nat → Int → Option (Bool)) : Option (Bool) := (if ((↑a0.length : Int) != (↑a1.length : Int)) = true then some (false)
 else l0 K ((0 : Int)))
noncomputable def G19 (K : Nat) (a0 : List (El (.int .u32))) (a1 : List (El (.int .u32))) : Option (Bool) := t19 K a0 a1 (L19_0 K a0 a1)
theorem lp19_0 (K : Nat) (a0 : List (El (.int .u32))) (a1 : List (El (.int .u32))) : ∀ (n : Nat) (ps5 : Int), loopN Tryd.prog (tab19) 0 K Tryd.f19 la19 dq19.k 0 [] n (hd19_0 a0 a1 ps5) = L19_0 K a0 a1 n ps5
  | 0, _ => by kernel_rfl
  | n + 1, ps5 => by
    have h : loopN Tryd.prog (tab19) 0 K Tryd.f19 la19 dq19.k 0 [] (n + 1) (hd19_0 a0 a1 ps5) = b19_0 K a0 a1 (fun q0 => loopN Tryd.prog (tab19) 0 K Tryd.f19 la19 dq19.k 0 [] n (hd19_0 a0 a1 q0)) ps5 := by kernel_rfl
    rw [h]
    simp only [lp19_0 K a0 a1 n]
    rfl
theorem ev19 (K : Nat) (a0 : List (El (.int .u32))) (a1 : List (El (.int .u32))) : evFun Tryd.prog (tab19) 0 K Tryd.f19 la19 [.row (.int .u32) a0, .row (.int .u32) a1] [] dq19.k = G19 K a0 a1 := by
  have h : evFun Tryd.prog (tab19) 0 K Tryd.f19 la19 [.row (.int .u32) a0, .row (.int .u32) a1] [] dq19.k = t19 K a0 a1 (fun k q0 => loopN Tryd.prog (tab19) 0 K Tryd.f19 la19 dq19.k 0 [] k (hd19_0 a0 a1 q0)) := by kernel_rfl
  rw [h]
  simp only [lp19_0 K a0 a1]
  rfl
noncomputable def F19 (K : Nat) (a0 : List (El (.int .u32))) (a1 : List (El (.int .u32))) : Option (Bool) := G19 K a0 a1
theorem cok19 (K : Nat) : CallOK D Tryd.prog (tab19) := none_ok
theorem ok19 (K : Nat) : RowOK D Tryd.prog 19 (row ad19 dq19 fun p => F19 K p.1 p.2) := row_ok fun x r h => has_of (cok19 K) Tryd.func19 ((ev19 K x.1 x.2).trans h)
/-! ganger/gangerref08.Same -/
noncomputable def tab20 (F19 : (List (El (.int .u32))) → (List (El (.int .u32))) → Option (Bool)) : Tab := (Tab.none.add 19 (row ad19 dq19 fun p => F19 p.1 p.2))
noncomputable def la20 : List (List Tidy) := [[.only [2, 3, 5], .ids [2, 3, 14, 17], .top [1000000]]]
noncomputable def hd20_0 (a0 : El T24) (a1 : El T24) (ps5 : Int) : St := { tm := slots (nat_lit 56) [(nat_lit 2, AV.ptr (nat_lit 2) (nat_lit 0)), (nat_lit 3, AV.ptr (nat_lit 3) (nat_lit 0)), (nat_lit 5, AV.sc (Value.int IntKind.i64 ps5))], H := [(nat_lit 2, ABlk.box (nat_lit 24) (cellsOf T24 a0)), (nat_lit 3, ABlk.box (nat_lit 24) (cellsOf T24 a1))] }
noncomputable def b20_0 (F19 : (List (El (.int .u32))) → (List (El (.int .u32))) → Option (Bool)) (K : Nat) (a0 : El T24) (a1 : El T24) (r0 : Int → Option (Bool)) (ps5 : Int) : Option (Bool) :=(if decide (ps5 < (↑(List.length a0.2) : Int)) = true then (if decide ((0 : Int) ≤ ps5 ∧ ps5 < (↑(List.length a0.2) : Int)) = true then (if decide ((0 : Int) ≤ ps5 ∧ ps5 < (↑(List.length a1.2) : Int)) = true then (if ((List.getD a0.2 ps5.toNat (zEl T46)).1 != (List.getD a1.2 ps5.toNat (zEl T46)).1) = true then some (false)
     else (if decide ((0 : Int) ≤ ps5 ∧ ps5 < (↑(List.length a0.2) : Int)) = true then (if decide ((0 : Int) ≤ ps5 ∧ ps5 < (↑(List.length a1.2) : Int)) = true then 
        (Option.bind (F19 (List.getD a0.2 ps5.toNat (zEl T46)).2 (List.getD a1.2 ps5.toNat (zEl T46)).2) fun x0 => (if (!x0) = true then some (false)
         else r0 (IntKind.i64.wrap (ps5 + (1 : Int)))))
       else none)
      else none))
    else none)
   else none)
  else some (true))
noncomputable def L20_0 (F19 : (List (El (.int .u32))) → (List (El (.int .u32))) → Option (Bool)) (K : Nat) (a0 : El T24) (a1 : El T24) : Nat → Int → Option (Bool)
  | 0, _ => none
  | n + 1, ps5 => b20_0 F19 K a0 a1 (L20_0 F19 K a0 a1 n) ps5
noncomputable def t20 (F19 : (List (El (.int .u32))) → (List (El (.int .u32))) → Option (Bool)) (K : Nat) (a0 : El T24) (a1 : El T24) (l0 : Nat → Int → Option (Bool)) : Option (Bool) := (if (!a0.1 == a1.1) = true then some (false)
 else (if ((↑(List.length a0.2) : Int) != (↑(List.length a1.2) : Int)) = true then some (false)
  else l0 K ((0 : Int))))
noncomputable def G20 (F19 : (List (El (.int .u32))) → (List (El (.int .u32))) → Option (Bool)) (K : Nat) (a0 : El T24) (a1 : El T24) : Option (Bool) := t20 F19 K a0 a1 (L20_0 F19 K a0 a1)
theorem lp20_0 (F19 : (List (El (.int .u32))) → (List (El (.int .u32))) → Option (Bool)) (K : Nat) (a0 : El T24) (a1 : El T24) : ∀ (n : Nat) (ps5 : Int), loopN Tryd.prog (tab20 F19) 0 K Tryd.f20 la20 dq20.k 0 [] n (hd20_0 a0 a1 ps5) = L20_0 F19 K a0 a1 n ps5
  | 0, _ => by kernel_rfl
  | n + 1, ps5 => by
    have h : loopN Tryd.prog (tab20 F19) 0 K Tryd.f20 la20 dq20.k 0 [] (n + 1) (hd20_0 a0 a1 ps5) = b20_0 F19 K a0 a1 (fun q0 => loopN Tryd.prog (tab20 F19) 0 K Tryd.f20 la20 dq20.k 0 [] n (hd20_0 a0 a1 q0)) ps5 := by kernel_rfl
    rw [h]
    simp only [lp20_0 F19 K a0 a1 n]
    rfl
theorem ev20 (F19 : (List (El (.int .u32))) → (List (El (.int .u32))) → Option (Bool)) (K : Nat) (a0 : El T24) (a1 : El T24) : evFun Tryd.prog (tab20 F19) 0 K Tryd.f20 la20 [.agg (cellsOf T24 a0), .agg (cellsOf T24 a1)] [] dq20.k = G20 F19 K a0 a1 := by
  have h : evFun Tryd.prog (tab20 F19) 0 K Tryd.f20 la20 [.agg (cellsOf T24 a0), .agg (cellsOf T24 a1)] [] dq20.k = t20 F19 K a0 a1 (fun k q0 => loopN Tryd.prog (tab20 F19) 0 K Tryd.f20 la20 dq20.k 0 [] k (hd20_0 a0 a1 q0)) := by kernel_rfl
  rw [h]
  simp only [lp20_0 F19 K a0 a1]
  rfl
noncomputable def F20 (K : Nat) (a0 : El T24) (a1 : El T24) : Option (Bool) := G20 (F19 K) K a0 a1
theorem cok20 (K : Nat) : CallOK D Tryd.prog (tab20 (F19 K)) := (add_ok none_ok ent19 (ok19 K))
theorem ok20 (K : Nat) : RowOK D Tryd.prog 20 (row ad20 dq20 fun p => F20 K p.1 p.2) := row_ok fun x r h => has_of (cok20 K) Tryd.func20 ((ev20 (F19 K) K x.1 x.2).trans h)
/-! ganger/gangerlaw08.DependBack -/
noncomputable def tab6 (F10 : (El T24) → (List (El T54)) → Option (Bool)) (F11 : Option (Bool)) (F14 : (El T24) → Option (ByteArray × Int)) (F13 : (El T24) → Option (Int)) (F21 : ByteArray → Option ((El T24) × Int)) (F20 : (El T24) → (El T24) → Option (Bool)) : Tab := ((((((Tab.none.add 10 (row ad10 dq10 fun p => F10 p.1 p.2)).add 11 (row ad11 dq11 fun p => F11)).add 14 (row ad14 dq14 fun p => F14 p)).add 13 (row ad13 dq13 fun p => F13 p)).add 21 (row ad21 dq21 fun p => F21 p)).add 20 (row ad20 dq20 fun p => F20 p.1 p.2))
noncomputable def t6 (F10 : (El T24) → (List (El T54)) → Option (Bool)) (F11 : Option (Bool)) (F14 : (El T24) → Option (ByteArray × Int)) (F13 : (El T24) → Option (Int)) (F21 : ByteArray → Option ((El T24) × Int)) (F20 : (El T24) → (El T24) → Option (Bool)) (K : Nat) (a0 : El T24) (a1 : ByteArray) : Option (Bool) := 
 (Option.bind (F10 a0 []) fun x0 => (if x0 = true then 
   (Option.bind (F11) fun x1 => some (x1))
  else (if decide ((↑a1.size : Int) > (2000 : Int)) = true then 
    (Option.bind (F11) fun x2 => some (x2))
   else 
    (Option.bind (F14 a0) fun x3 => 
     (Option.bind (F13 a0) fun x4 => (if (!(x3.2 == (0 : Int)) == (x4 == (0 : Int))) = true then some (false)
      else (if (x3.2 == (0 : Int)) = true then 
        (Option.bind (F21 x3.1) fun x5 => (if (x5.2 != (0 : Int)) = true then some (false)
         else 
          (Option.bind (F20 x5.1 a0) fun x6 => (if (!x6) = true then some (false)
           else 
            (Option.bind (F21 a1) fun x7 => (if (x7.2 != (0 : Int)) = true then (if ((↑(List.length x7.1.2) : Int) == (0 : Int)) = true then (if (!x7.1.1) = true then 
                (Option.bind (F11) fun x8 => some (x8))
               else some (false))
              else some (false))
             else 
              (Option.bind (F14 x7.1) fun x9 => (if (x9.2 == (0 : Int)) = true then (if (x9.1.toList == a1.toList) = true then 
                 (Option.bind (F11) fun x10 => some (x10))
                else some (false))
               else some (false)))))))))
       else 
        (Option.bind (F21 a1) fun x11 => (if (x11.2 != (0 : Int)) = true then (if ((↑(List.length x11.1.2) : Int) == (0 : Int)) = true then (if (!x11.1.1) = true then 
            (Option.bind (F11) fun x12 => some (x12))
           else some (false))
          else some (false))
         else 
          (Option.bind (F14 x11.1) fun x13 => (if (x13.2 == (0 : Int)) = true then (if (x13.1.toList == a1.toList) = true then 
             (Option.bind (F11) fun x14 => some (x14))
            else some (false))
           else some (false))))))))))))
noncomputable def G6 (F10 : (El T24) → (List (El T54)) → Option (Bool)) (F11 : Option (Bool)) (F14 : (El T24) → Option (ByteArray × Int)) (F13 : (El T24) → Option (Int)) (F21 : ByteArray → Option ((El T24) × Int)) (F20 : (El T24) → (El T24) → Option (Bool)) (K : Nat) (a0 : El T24) (a1 : ByteArray) : Option (Bool) := t6 F10 F11 F14 F13 F21 F20 K a0 a1
theorem ev6 (F10 : (El T24) → (List (El T54)) → Option (Bool)) (F11 : Option (Bool)) (F14 : (El T24) → Option (ByteArray × Int)) (F13 : (El T24) → Option (Int)) (F21 : ByteArray → Option ((El T24) × Int)) (F20 : (El T24) → (El T24) → Option (Bool)) (K : Nat) (a0 : El T24) (a1 : ByteArray) : evFun Tryd.prog (tab6 F10 F11 F14 F13 F21 F20) 0 K Tryd.f6 [] [.agg (cellsOf T24 a0), .sc (.string a1)] [] dq6.k = G6 F10 F11 F14 F13 F21 F20 K a0 a1 := by
  kernel_rfl
noncomputable def F6 (K : Nat) (a0 : El T24) (a1 : ByteArray) : Option (Bool) := G6 (F10 K) (F11 K) (F14 K) (F13 K) (F21 K) (F20 K) K a0 a1
theorem cok6 (K : Nat) : CallOK cxT Tryd.prog (tab6 (F10 K) (F11 K) (F14 K) (F13 K) (F21 K) (F20 K)) := (add_ok (add_ok (add_ok (add_ok (add_ok (add_ok none_ok ent10 (ok10 K)) ent11 (ok11 K)) ent14 (ok14 K)) ent13 (ok13 K)) ent21 (ok21 K)) ent20 (ok20 K))
theorem ok6 (K : Nat) : RowOK cxT Tryd.prog 6 (row ad6 dq6 fun p => F6 K p.1 p.2) := row_ok fun x r h => has_of (cok6 K) Tryd.func6 ((ev6 (F10 K) (F11 K) (F14 K) (F13 K) (F21 K) (F20 K) K x.1 x.2).trans h)
/-! ganger/gangerlaw08.copied -/
noncomputable def tab12 : Tab := Tab.none
noncomputable def la12 : List (List Tidy) := [[.only [1, 2, 3, 4], .prob 3 1 37 46 T46, .ids [1, 2, 3, 37], .top [1000000]], [.frz (List.range 64)]]
noncomputable def hd12_0 (a0 : El T24) (ps4 : Int) (ph37 : List (El T46)) : St := { tm := slots (nat_lit 40) [(nat_lit 1, AV.ptr (nat_lit 1) (nat_lit 0)), (nat_lit 2, AV.ptr (nat_lit 2) (nat_lit 0)), (nat_lit 3, AV.ptr (nat_lit 3) (nat_lit 0)), (nat_lit 4, AV.sc (Value.int IntKind.i64 ps4))], H := [(nat_lit 1, ABlk.box (nat_lit 24) (cellsOf T24 a0)), (nat_lit 2, ABlk.box (nat_lit 24) [AV.sc (Value.bool false), AV.sc (Value.slice none (0 : Nat) (0 : Nat))]), (nat_lit 3, ABlk.box (nat_lit 24) [AV.sc (Value.bool a0.1), AV.own (nat_lit 37)]), (nat_lit 37, ABlk.arr (nat_lit 46) T46 ph37)] }
noncomputable def b12_0 (K : Nat) (a0 : El T24) (r0 : Int → (List (El T46)) → Option (El T24)) (ps4 : Int) (ph37 : List (El T46)) : Option (El T24) :=(if decide (ps4 < (↑(List.length a0.2) : Int)) = true then (if decide ((0 : Int) ≤ ps4 ∧ ps4 < (↑(List.length a0.2) : Int)) = true then (if decide ((0 : Int) ≤ ps4 ∧ ps4 < (↑(List.length a0.2) : Int)) = true then (if decide (List.length (List.getD a0.2 ps4.toNat (zEl T46)).2 * Tryd.prog.types[(38 : Nat)].bytes ≤ (140737488355328 : Nat)) = true then (if decide ((ph37.length + [List.getD a0.2 ps4.toNat (zEl T46)].length) * Tryd.prog.types[(46 : Nat)].bytes ≤ (140737488355328 : Nat)) = true then r0 (IntKind.i64.wrap (ps4 + (1 : Int))) (ph37 ++ [List.getD a0.2 ps4.toNat (zEl T46)])
      else none)
     else none)
    else none)
   else none)
  else some ((a0.1, ph37)))
noncomputable def L12_0 (K : Nat) (a0 : El T24) : Nat → Int → (List (El T46)) → Option (El T24)
  | 0, _, _ => none
  | n + 1, ps4, ph37 => b12_0 K a0 (L12_0 K a0 n) ps4 ph37
noncomputable def t12 (K : Nat) (a0 : El T24) (l0 : Nat → Int → (List (El T46)) → Option (El T24)) : Option (El T24) := l0 K ((0 : Int)) ([])
noncomputable def G12 (K : Nat) (a0 : El T24) : Option (El T24) := t12 K a0 (L12_0 K a0)
theorem lp12_0 (K : Nat) (a0 : El T24) : ∀ (n : Nat) (ps4 : Int) (ph37 : List (El T46)), loopN Tryd.prog (tab12) 0 K Tryd.f12 la12 dq12.k 0 [] n (hd12_0 a0 ps4 ph37) = L12_0 K a0 n ps4 ph37
  | 0, _, _ => by kernel_rfl
  | n + 1, ps4, ph37 => by
    have h : loopN Tryd.prog (tab12) 0 K Tryd.f12 la12 dq12.k 0 [] (n + 1) (hd12_0 a0 ps4 ph37) = b12_0 K a0 (fun q0 q1 => loopN Tryd.prog (tab12) 0 K Tryd.f12 la12 dq12.k 0 [] n (hd12_0 a0 q0 q1)) ps4 ph37 := by kernel_rfl
    rw [h]
    simp only [lp12_0 K a0 n]
    rfl
theorem ev12 (K : Nat) (a0 : El T24) : evFun Tryd.prog (tab12) 0 K Tryd.f12 la12 [.agg (cellsOf T24 a0)] [] dq12.k = G12 K a0 := by
  have h : evFun Tryd.prog (tab12) 0 K Tryd.f12 la12 [.agg (cellsOf T24 a0)] [] dq12.k = t12 K a0 (fun k q0 q1 => loopN Tryd.prog (tab12) 0 K Tryd.f12 la12 dq12.k 0 [] k (hd12_0 a0 q0 q1)) := by kernel_rfl
  rw [h]
  simp only [lp12_0 K a0]
  rfl
noncomputable def F12 (K : Nat) (a0 : El T24) : Option (El T24) := G12 K a0
theorem cok12 (K : Nat) : CallOK D Tryd.prog (tab12) := none_ok
theorem ok12 (K : Nat) : RowOK D Tryd.prog 12 (row ad12 dq12 fun p => F12 K p) := row_ok fun x r h => has_of (cok12 K) Tryd.func12 ((ev12 K x).trans h)
/-! ganger/gangerref08.word -/
noncomputable def tab29 : Tab := Tab.none
noncomputable def t29 (K : Nat) (a0 : Int) : Option (ByteArray) := (if (a0 == (1 : Int)) = true then some ((ByteArray.mk (#[(97 : UInt8), (102 : UInt8), (116 : UInt8), (101 : UInt8), (114 : UInt8)])))
 else (if (a0 == (2 : Int)) = true then some ((ByteArray.mk (#[(97 : UInt8), (102 : UInt8), (116 : UInt8), (101 : UInt8), (114 : UInt8), (111 : UInt8), (107 : UInt8)])))
  else (if (a0 == (3 : Int)) = true then some ((ByteArray.mk (#[(97 : UInt8), (102 : UInt8), (116 : UInt8), (101 : UInt8), (114 : UInt8), (110 : UInt8), (111 : UInt8), (116 : UInt8), (111 : UInt8), (107 : UInt8)])))
   else (if (a0 == (4 : Int)) = true then some ((ByteArray.mk (#[(97 : UInt8), (102 : UInt8), (116 : UInt8), (101 : UInt8), (114 : UInt8), (97 : UInt8), (110 : UInt8), (121 : UInt8)])))
    else some ((ByteArray.mk (#[(115 : UInt8), (105 : UInt8), (110 : UInt8), (103 : UInt8), (108 : UInt8), (101 : UInt8), (116 : UInt8), (111 : UInt8), (110 : UInt8)])))))))
noncomputable def G29 (K : Nat) (a0 : Int) : Option (ByteArray) := t29 K a0
theorem ev29 (K : Nat) (a0 : Int) : evFun Tryd.prog (tab29) 0 K Tryd.f29 [] [I .i64 a0] [] dq29.k = G29 K a0 := by
  kernel_rfl
noncomputable def F29 (K : Nat) (a0 : Int) : Option (ByteArray) := G29 K a0
theorem cok29 (K : Nat) : CallOK D Tryd.prog (tab29) := none_ok
theorem ok29 (K : Nat) : RowOK D Tryd.prog 29 (row ad29 dq29 fun p => F29 K p) := row_ok fun x r h => has_of (cok29 K) Tryd.func29 ((ev29 K x).trans h)
/-! ganger/gangerref06.Digits -/
noncomputable def tab30 (F30 : Int → Option (ByteArray)) : Tab := (Tab.none.add 30 (row ad30 dq30 fun p => F30 p))
noncomputable def t30 (F30 : Int → Option (ByteArray)) (K : Nat) (a0 : Int) : Option (ByteArray) := (if decide (a0 < (10 : Int)) = true then some (ByteArray.empty.push (UInt8.ofNat (IntKind.u8.wrap (IntKind.i64.wrap ((48 : Int) + a0))).toNat))
 else 
  (Option.bind (F30 (IntKind.i64.wrap (a0.tdiv (10 : Int)))) fun x0 => (if decide (ByteArray.size x0 + (ByteArray.empty.push (UInt8.ofNat (IntKind.u8.wrap (IntKind.i64.wrap ((48 : Int) + a0.tmod (10 : Int)))).toNat)).size ≤ (9223372036854775807 : Nat)) = true then some (x0 ++ ByteArray.empty.push (UInt8.ofNat (IntKind.u8.wrap (IntKind.i64.wrap ((48 : Int) + a0.tmod (10 : Int)))).toNat))
   else none)))
noncomputable def G30 (F30 : Int → Option (ByteArray)) (K : Nat) (a0 : Int) : Option (ByteArray) := t30 F30 K a0
theorem ev30 (F30 : Int → Option (ByteArray)) (K : Nat) (a0 : Int) : evFun Tryd.prog (tab30 F30) 0 K Tryd.f30 [] [I .i64 a0] [] dq30.k = G30 F30 K a0 := by
  kernel_rfl
noncomputable def R30 (K : Nat) : Nat → Int → Option (ByteArray)
  | 0 => fun _ => none
  | d + 1 => fun a0 => G30 (R30 K d) K a0
noncomputable def F30 (K : Nat) (a0 : Int) : Option (ByteArray) := R30 K K a0
theorem rok30 (K : Nat) : ∀ d : Nat, RowOK D Tryd.prog 30 (row ad30 dq30 fun p => R30 K d p)
  | 0 => row_ok fun x r h => nomatch (show (none : Option (ByteArray)) = some r from h)
  | d + 1 => row_ok fun x r h => has_of (show CallOK D Tryd.prog (tab30 (R30 K d)) from (add_ok none_ok ent30 (rok30 K d))) Tryd.func30 ((ev30 (R30 K d) K x).trans h)
theorem ok30 (K : Nat) : RowOK D Tryd.prog 30 (row ad30 dq30 fun p => F30 K p) := rok30 K K
end Go.Proofs.YtigekmmdflaeaaaDoorE
