import Derived.Test.YthebmlpohkfhbaaS14F6
set_option linter.all false
namespace Go.Proofs.YthebmlpohkfhbaaE
open Go Go.Proofs
set_option maxRecDepth 100000
set_option linter.unusedVariables false
/-! ganger/gangerlaw14.WaitsEnds -/
noncomputable def tab7 (F10 : (List (El T45)) → Option (Bool)) (F16 : (List (El T45)) → Option (Int)) (F11 : Option (Bool)) (F19 : (El T39) → Option (Int)) (F20 : (List (El T45)) → Int → Int → Option (Int)) : Tab := (((((Tab.none.add 10 (row ad10 dq10 fun p => F10 p)).add 16 (row ad16 dq16 fun p => F16 p)).add 11 (row ad11 dq11 fun p => F11)).add 19 (row ad19 dq19 fun p => F19 p)).add 20 (row ad20 dq20 fun p => F20 p.1 p.2.1 p.2.2))
noncomputable def la7 : List (List Tidy) := [[.only [1, 2, 7, 8], .ids [13, 16, 19, 30, 33, 36, 71, 75, 78, 89, 99, 117, 143, 151], .top [1000000]], [.only [1, 7, 10, 11, 12], .ids [16, 19, 30, 33, 36, 39, 45, 71, 75, 78, 89, 143, 151], .top [1000001]], [.only [1, 7, 10, 11, 12, 13, 14], .ids [13, 16, 19, 30, 33, 36, 39, 45, 71, 75, 78, 89, 99, 143, 151], .top [1000002]]]
noncomputable def hd7_0 (a0 : List (El T45)) (a1 : Int) (a2 : List (El (.int .u8))) (ps8 : Int) (ph36 : List (El T45)) : St := { tm := slots (nat_lit 153) [(nat_lit 1, AV.sc (Value.int IntKind.u32 a1)), (nat_lit 2, AV.row (Ty.int IntKind.u8) a2), (nat_lit 7, AV.own (nat_lit 36)), (nat_lit 8, AV.sc (Value.int IntKind.i64 ps8))], H := [(nat_lit 36, ABlk.arr (nat_lit 45) T45 ph36)] }
noncomputable def hd7_1 (a0 : List (El T45)) (a1 : Int) (a2 : List (El (.int .u8))) (ps10 : Int) (ps11 : Bool) (ps12 : Int) (ph36 : List (El T45)) : St := { tm := slots (nat_lit 153) [(nat_lit 1, AV.sc (Value.int IntKind.u32 a1)), (nat_lit 7, AV.own (nat_lit 36)), (nat_lit 10, AV.sc (Value.int IntKind.i64 ps10)), (nat_lit 11, AV.sc (Value.bool ps11)), (nat_lit 12, AV.sc (Value.int IntKind.i64 ps12))], H := [(nat_lit 36, ABlk.arr (nat_lit 45) T45 ph36)] }
noncomputable def hd7_2 (a0 : List (El T45)) (a1 : Int) (a2 : List (El (.int .u8))) (ps10 : Int) (ps11 : Bool) (ps12 : Int) (ps14 : Int) (ph13 : El T54) (ph36 : List (El T45)) : St := { tm := slots (nat_lit 153) [(nat_lit 1, AV.sc (Value.int IntKind.u32 a1)), (nat_lit 7, AV.own (nat_lit 36)), (nat_lit 10, AV.sc (Value.int IntKind.i64 ps10)), (nat_lit 11, AV.sc (Value.bool ps11)), (nat_lit 12, AV.sc (Value.int IntKind.i64 ps12)), (nat_lit 13, AV.ptr (nat_lit 13) (nat_lit 0)), (nat_lit 14, AV.sc (Value.int IntKind.i64 ps14))], H := [(nat_lit 13, ABlk.box (nat_lit 54) (cellsOf T54 ph13)), (nat_lit 36, ABlk.arr (nat_lit 45) T45 ph36)] }
noncomputable def b7_2 (F10 : (List (El T45)) → Option (Bool)) (F16 : (List (El T45)) → Option (Int)) (F11 : Option (Bool)) (F19 : (El T39) → Option (Int)) (F20 : (List (El T45)) → Int → Int → Option (Int)) (K : Nat) (a0 : List (El T45)) (a1 : Int) (a2 : List (El (.int .u8))) (r1 : Int → Bool → Int → (List (El T45)) → Option (Bool)) (r2 : Int → Bool → Int → Int → (El T54) → (List (El T45)) → Option (Bool)) (ps10 : Int) (ps11 : Bool) (ps12 : Int) (ps14 : Int) (ph13 : El T54) (ph36 : List (El T45)) : Option (Bool) :=(if decide (ps14 < (↑(List.length ph13.2) : Int)) = true then (if ps11 = true then r2 (ps10) (true) (ps12) (IntKind.i64.wrap (ps14 + (1 : Int))) (ph13) (ph36)
   else (if decide ((0 : Int) ≤ ps14 ∧ ps14 < (↑(List.length ph13.2) : Int)) = true then r2 (ps10) (List.getD ph13.2 ps14.toNat (zEl (Ty.int IntKind.u32)) == a1) (ps12) (IntKind.i64.wrap (ps14 + (1 : Int))) (ph13) (ph36)
    else none))
  else r1 (ps10) (ps11) (IntKind.i64.wrap (ps12 + (1 : Int))) (ph36))
noncomputable def L7_2 (F10 : (List (El T45)) → Option (Bool)) (F16 : (List (El T45)) → Option (Int)) (F11 : Option (Bool)) (F19 : (El T39) → Option (Int)) (F20 : (List (El T45)) → Int → Int → Option (Int)) (K : Nat) (a0 : List (El T45)) (a1 : Int) (a2 : List (El (.int .u8))) (r1 : Int → Bool → Int → (List (El T45)) → Option (Bool)) : Nat → Int → Bool → Int → Int → (El T54) → (List (El T45)) → Option (Bool)
  | 0, _, _, _, _, _, _ => none
  | n + 1, ps10, ps11, ps12, ps14, ph13, ph36 => b7_2 F10 F16 F11 F19 F20 K a0 a1 a2 r1 (L7_2 F10 F16 F11 F19 F20 K a0 a1 a2 r1 n) ps10 ps11 ps12 ps14 ph13 ph36
noncomputable def b7_1 (F10 : (List (El T45)) → Option (Bool)) (F16 : (List (El T45)) → Option (Int)) (F11 : Option (Bool)) (F19 : (El T39) → Option (Int)) (F20 : (List (El T45)) → Int → Int → Option (Int)) (K : Nat) (a0 : List (El T45)) (a1 : Int) (a2 : List (El (.int .u8))) (r1 : Int → Bool → Int → (List (El T45)) → Option (Bool)) (l2 : Nat → Int → Bool → Int → Int → (El T54) → (List (El T45)) → Option (Bool)) (ps10 : Int) (ps11 : Bool) (ps12 : Int) (ph36 : List (El T45)) : Option (Bool) :=(if decide ((0 : Int) ≤ IntKind.u32.wrap (a1 - (1 : Int)) ∧ IntKind.u32.wrap (a1 - (1 : Int)) < (↑ph36.length : Int)) = true then (if decide (ps12 < (↑(List.length (ph36.getD (IntKind.u32.wrap (a1 - (1 : Int))).toNat (zEl T45)).2.2.2.1.2.2.2.2.2.2.2.1.2) : Int)) = true then (if decide ((0 : Int) ≤ IntKind.u32.wrap (a1 - (1 : Int)) ∧ IntKind.u32.wrap (a1 - (1 : Int)) < (↑ph36.length : Int)) = true then (if decide ((0 : Int) ≤ ps12 ∧ ps12 < (↑(List.length (ph36.getD (IntKind.u32.wrap (a1 - (1 : Int))).toNat (zEl T45)).2.2.2.1.2.2.2.2.2.2.2.1.2) : Int)) = true then l2 K (ps10) (ps11) (ps12) ((0 : Int)) (List.getD (ph36.getD (IntKind.u32.wrap (a1 - (1 : Int))).toNat (zEl T45)).2.2.2.1.2.2.2.2.2.2.2.1.2 ps12.toNat (zEl T54)) (ph36)
     else none)
    else none)
   else (if ps11 = true then 
     (Option.bind (F11) fun x10 => some (x10))
    else (if decide ((0 : Int) ≤ IntKind.u32.wrap (a1 - (1 : Int)) ∧ IntKind.u32.wrap (a1 - (1 : Int)) < (↑ph36.length : Int)) = true then (if decide ((ph36.getD (IntKind.u32.wrap (a1 - (1 : Int))).toNat (zEl T45)).2.2.2.1.2.2.2.2.2.2.1.2 < (0 : Int)) = true then 
       (Option.bind (F11) fun x11 => some (x11))
      else (if (ps10 == (2 : Int)) = true then 
        (Option.bind (F11) fun x12 => some (x12))
       else (if (ps10 == (3 : Int)) = true then 
         (Option.bind (F11) fun x13 => some (x13))
        else some (false))))
     else none)))
  else none)
noncomputable def L7_1 (F10 : (List (El T45)) → Option (Bool)) (F16 : (List (El T45)) → Option (Int)) (F11 : Option (Bool)) (F19 : (El T39) → Option (Int)) (F20 : (List (El T45)) → Int → Int → Option (Int)) (K : Nat) (a0 : List (El T45)) (a1 : Int) (a2 : List (El (.int .u8))) : Nat → Int → Bool → Int → (List (El T45)) → Option (Bool)
  | 0, _, _, _, _ => none
  | n + 1, ps10, ps11, ps12, ph36 => b7_1 F10 F16 F11 F19 F20 K a0 a1 a2 (L7_1 F10 F16 F11 F19 F20 K a0 a1 a2 n) (L7_2 F10 F16 F11 F19 F20 K a0 a1 a2 (L7_1 F10 F16 F11 F19 F20 K a0 a1 a2 n)) ps10 ps11 ps12 ph36
noncomputable def b7_0 (F10 : (List (El T45)) → Option (Bool)) (F16 : (List (El T45)) → Option (Int)) (F11 : Option (Bool)) (F19 : (El T39) → Option (Int)) (F20 : (List (El T45)) → Int → Int → Option (Int)) (K : Nat) (a0 : List (El T45)) (a1 : Int) (a2 : List (El (.int .u8))) (r0 : Int → (List (El T45)) → Option (Bool)) (l1 : Nat → Int → Bool → Int → (List (El T45)) → Option (Bool)) (ps8 : Int) (ph36 : List (El T45)) : Option (Bool) :=(if decide (ps8 < (↑ph36.length : Int)) = true then (if decide (ps8 < (↑a2.length : Int)) = true then (if decide ((0 : Int) ≤ ps8 ∧ ps8 < (↑a2.length : Int)) = true then (if decide ((0 : Int) ≤ ps8 ∧ ps8 < (↑ph36.length : Int)) = true then r0 (IntKind.i64.wrap (ps8 + (1 : Int))) (ph36.set ps8.toNat ((ph36.getD ps8.toNat (zEl T45)).1, (ph36.getD ps8.toNat (zEl T45)).2.1, (ph36.getD ps8.toNat (zEl T45)).2.2.1, (ph36.getD ps8.toNat (zEl T45)).2.2.2.1, (ph36.getD ps8.toNat (zEl T45)).2.2.2.2.1, IntKind.i64.wrap ((5 : Int) + IntKind.i64.wrap (Int.tmod (a2.getD ps8.toNat (zEl (Ty.int IntKind.u8))) (5 : Int))), (ph36.getD ps8.toNat (zEl T45)).2.2.2.2.2.2))
     else none)
    else none)
   else (if decide ((0 : Int) ≤ ps8 ∧ ps8 < (↑ph36.length : Int)) = true then r0 (IntKind.i64.wrap (ps8 + (1 : Int))) (ph36.set ps8.toNat ((ph36.getD ps8.toNat (zEl T45)).1, (ph36.getD ps8.toNat (zEl T45)).2.1, (ph36.getD ps8.toNat (zEl T45)).2.2.1, (ph36.getD ps8.toNat (zEl T45)).2.2.2.1, (ph36.getD ps8.toNat (zEl T45)).2.2.2.2.1, (5 : Int), (ph36.getD ps8.toNat (zEl T45)).2.2.2.2.2.2))
    else none))
  else (if decide ((0 : Int) ≤ IntKind.u32.wrap (a1 - (1 : Int)) ∧ IntKind.u32.wrap (a1 - (1 : Int)) < (↑ph36.length : Int)) = true then (if decide ((0 : Int) ≤ IntKind.u32.wrap (a1 - (1 : Int)) ∧ IntKind.u32.wrap (a1 - (1 : Int)) < (↑(ph36.set (IntKind.u32.wrap (a1 - (1 : Int))).toNat ((ph36.getD (IntKind.u32.wrap (a1 - (1 : Int))).toNat (zEl T45)).1, (ph36.getD (IntKind.u32.wrap (a1 - (1 : Int))).toNat (zEl T45)).2.1, (ph36.getD (IntKind.u32.wrap (a1 - (1 : Int))).toNat (zEl T45)).2.2.1, (ph36.getD (IntKind.u32.wrap (a1 - (1 : Int))).toNat (zEl T45)).2.2.2.1, (ph36.getD (IntKind.u32.wrap (a1 - (1 : Int))).toNat (zEl T45)).2.2.2.2.1, (1 : Int), (ph36.getD (IntKind.u32.wrap (a1 - (1 : Int))).toNat (zEl T45)).2.2.2.2.2.2)).length : Int)) = true then 
     (Option.bind (F19 ((ph36.set (IntKind.u32.wrap (a1 - (1 : Int))).toNat ((ph36.getD (IntKind.u32.wrap (a1 - (1 : Int))).toNat (zEl T45)).1, (ph36.getD (IntKind.u32.wrap (a1 - (1 : Int))).toNat (zEl T45)).2.1, (ph36.getD (IntKind.u32.wrap (a1 - (1 : Int))).toNat (zEl T45)).2.2.1, (ph36.getD (IntKind.u32.wrap (a1 - (1 : Int))).toNat (zEl T45)).2.2.2.1, (ph36.getD (IntKind.u32.wrap (a1 - (1 : Int))).toNat (zEl T45)).2.2.2.2.1, (1 : Int), (ph36.getD (IntKind.u32.wrap (a1 - (1 : Int))).toNat (zEl T45)).2.2.2.2.2.2)).getD (IntKind.u32.wrap (a1 - (1 : Int))).toNat (zEl T45)).2.2.2.1.2.2.2.2.2.2.2.1) fun x6 => (if (x6 != (0 : Int)) = true then 
       (Option.bind (F20 (ph36.set (IntKind.u32.wrap (a1 - (1 : Int))).toNat ((ph36.getD (IntKind.u32.wrap (a1 - (1 : Int))).toNat (zEl T45)).1, (ph36.getD (IntKind.u32.wrap (a1 - (1 : Int))).toNat (zEl T45)).2.1, (ph36.getD (IntKind.u32.wrap (a1 - (1 : Int))).toNat (zEl T45)).2.2.1, (ph36.getD (IntKind.u32.wrap (a1 - (1 : Int))).toNat (zEl T45)).2.2.2.1, (ph36.getD (IntKind.u32.wrap (a1 - (1 : Int))).toNat (zEl T45)).2.2.2.2.1, (1 : Int), (ph36.getD (IntKind.u32.wrap (a1 - (1 : Int))).toNat (zEl T45)).2.2.2.2.2.2)) a1 (0 : Int)) fun x7 => (if (x7 == (0 : Int)) = true then 
         (Option.bind (F11) fun x8 => some (x8))
        else some (false)))
      else (if decide ((0 : Int) ≤ IntKind.u32.wrap (a1 - (1 : Int)) ∧ IntKind.u32.wrap (a1 - (1 : Int)) < (↑(ph36.set (IntKind.u32.wrap (a1 - (1 : Int))).toNat ((ph36.getD (IntKind.u32.wrap (a1 - (1 : Int))).toNat (zEl T45)).1, (ph36.getD (IntKind.u32.wrap (a1 - (1 : Int))).toNat (zEl T45)).2.1, (ph36.getD (IntKind.u32.wrap (a1 - (1 : Int))).toNat (zEl T45)).2.2.1, (ph36.getD (IntKind.u32.wrap (a1 - (1 : Int))).toNat (zEl T45)).2.2.2.1, (ph36.getD (IntKind.u32.wrap (a1 - (1 : Int))).toNat (zEl T45)).2.2.2.2.1, (1 : Int), (ph36.getD (IntKind.u32.wrap (a1 - (1 : Int))).toNat (zEl T45)).2.2.2.2.2.2)).length : Int)) = true then 
        (Option.bind (F20 (ph36.set (IntKind.u32.wrap (a1 - (1 : Int))).toNat ((ph36.getD (IntKind.u32.wrap (a1 - (1 : Int))).toNat (zEl T45)).1, (ph36.getD (IntKind.u32.wrap (a1 - (1 : Int))).toNat (zEl T45)).2.1, (ph36.getD (IntKind.u32.wrap (a1 - (1 : Int))).toNat (zEl T45)).2.2.1, (ph36.getD (IntKind.u32.wrap (a1 - (1 : Int))).toNat (zEl T45)).2.2.2.1, (ph36.getD (IntKind.u32.wrap (a1 - (1 : Int))).toNat (zEl T45)).2.2.2.2.1, (1 : Int), (ph36.getD (IntKind.u32.wrap (a1 - (1 : Int))).toNat (zEl T45)).2.2.2.2.2.2)) a1 ((ph36.set (IntKind.u32.wrap (a1 - (1 : Int))).toNat ((ph36.getD (IntKind.u32.wrap (a1 - (1 : Int))).toNat (zEl T45)).1, (ph36.getD (IntKind.u32.wrap (a1 - (1 : Int))).toNat (zEl T45)).2.1, (ph36.getD (IntKind.u32.wrap (a1 - (1 : Int))).toNat (zEl T45)).2.2.1, (ph36.getD (IntKind.u32.wrap (a1 - (1 : Int))).toNat (zEl T45)).2.2.2.1, (ph36.getD (IntKind.u32.wrap (a1 - (1 : Int))).toNat (zEl T45)).2.2.2.2.1, (1 : Int), (ph36.getD (IntKind.u32.wrap (a1 - (1 : Int))).toNat (zEl T45)).2.2.2.2.2.2)).getD (IntKind.u32.wrap (a1 - (1 : Int))).toNat (zEl T45)).2.2.2.1.2.2.2.2.2.2.2.2.2.1) fun x9 => l1 K (x9) (false) ((0 : Int)) (ph36.set (IntKind.u32.wrap (a1 - (1 : Int))).toNat ((ph36.getD (IntKind.u32.wrap (a1 - (1 : Int))).toNat (zEl T45)).1, (ph36.getD (IntKind.u32.wrap (a1 - (1 : Int))).toNat (zEl T45)).2.1, (ph36.getD (IntKind.u32.wrap (a1 - (1 : Int))).toNat (zEl T45)).2.2.1, (ph36.getD (IntKind.u32.wrap (a1 - (1 : Int))).toNat (zEl T45)).2.2.2.1, (ph36.getD (IntKind.u32.wrap (a1 - (1 : Int))).toNat (zEl T45)).2.2.2.2.1, (1 : Int), (ph36.getD (IntKind.u32.wrap (a1 - (1 : Int))).toNat (zEl T45)).2.2.2.2.2.2)))
       else none)))
    else none)
   else none))
noncomputable def L7_0 (F10 : (List (El T45)) → Option (Bool)) (F16 : (List (El T45)) → Option (Int)) (F11 : Option (Bool)) (F19 : (El T39) → Option (Int)) (F20 : (List (El T45)) → Int → Int → Option (Int)) (K : Nat) (a0 : List (El T45)) (a1 : Int) (a2 : List (El (.int .u8))) : Nat → Int → (List (El T45)) → Option (Bool)
  | 0, _, _ => none
  | n + 1, ps8, ph36 => b7_0 F10 F16 F11 F19 F20 K a0 a1 a2 (L7_0 F10 F16 F11 F19 F20 K a0 a1 a2 n) (L7_1 F10 F16 F11 F19 F20 K a0 a1 a2) ps8 ph36
noncomputable def t7 (F10 : (List (El T45)) → Option (Bool)) (F16 : (List (El T45)) → Option (Int)) (F11 : Option (Bool)) (F19 : (El T39) → Option (Int)) (F20 : (List (El T45)) → Int → Int → Option (Int)) (K : Nat) (a0 : List (El T45)) (a1 : Int) (a2 : List (El (.int .u8))) (l0 : Nat → Int → (List (El T45)) → Option (Bool)) : Option (Bool) := 
 (Option.bind (F10 a0) fun x0 => (if x0 = true then 
   (Option.bind (F11) fun x1 => some (x1))
  else 
   (Option.bind (F16 a0) fun x2 => (if (x2 != (0 : Int)) = true then 
     (Option.bind (F11) fun x3 => some (x3))
    else (if (a1 == (0 : Int)) = true then 
      (Option.bind (F11) fun x4 => some (x4))
     else (if decide (IntKind.i64.wrap a1 > (↑a0.length : Int)) = true then 
       (Option.bind (F11) fun x5 => some (x5))
      else (if decide (a0.length * Try.prog.types[(45 : Nat)].bytes ≤ (140737488355328 : Nat)) = true then l0 K ((0 : Int)) (a0)
       else none)))))))
noncomputable def G7 (F10 : (List (El T45)) → Option (Bool)) (F16 : (List (El T45)) → Option (Int)) (F11 : Option (Bool)) (F19 : (El T39) → Option (Int)) (F20 : (List (El T45)) → Int → Int → Option (Int)) (K : Nat) (a0 : List (El T45)) (a1 : Int) (a2 : List (El (.int .u8))) : Option (Bool) := t7 F10 F16 F11 F19 F20 K a0 a1 a2 (L7_0 F10 F16 F11 F19 F20 K a0 a1 a2)
theorem lp7_2 (F10 : (List (El T45)) → Option (Bool)) (F16 : (List (El T45)) → Option (Int)) (F11 : Option (Bool)) (F19 : (El T39) → Option (Int)) (F20 : (List (El T45)) → Int → Int → Option (Int)) (K : Nat) (a0 : List (El T45)) (a1 : Int) (a2 : List (El (.int .u8))) : ∀ (m1 : Nat) (n : Nat) (ps10 : Int) (ps11 : Bool) (ps12 : Int) (ps14 : Int) (ph13 : El T54) (ph36 : List (El T45)), loopN Try.prog (tab7 F10 F16 F11 F19 F20) 0 K Try.f7 la7 dq7.k 2 [m1] n (hd7_2 a0 a1 a2 ps10 ps11 ps12 ps14 ph13 ph36) = L7_2 F10 F16 F11 F19 F20 K a0 a1 a2 (fun q0 q1 q2 q3 => loopN Try.prog (tab7 F10 F16 F11 F19 F20) 0 K Try.f7 la7 dq7.k 1 [] m1 (hd7_1 a0 a1 a2 q0 q1 q2 q3)) n ps10 ps11 ps12 ps14 ph13 ph36
  | m1, 0, _, _, _, _, _, _ => by kernel_rfl
  | m1, n + 1, ps10, ps11, ps12, ps14, ph13, ph36 => by
    have h : loopN Try.prog (tab7 F10 F16 F11 F19 F20) 0 K Try.f7 la7 dq7.k 2 [m1] (n + 1) (hd7_2 a0 a1 a2 ps10 ps11 ps12 ps14 ph13 ph36) = b7_2 F10 F16 F11 F19 F20 K a0 a1 a2 (fun q0 q1 q2 q3 => loopN Try.prog (tab7 F10 F16 F11 F19 F20) 0 K Try.f7 la7 dq7.k 1 [] m1 (hd7_1 a0 a1 a2 q0 q1 q2 q3)) (fun q0 q1 q2 q3 q4 q5 => loopN Try.prog (tab7 F10 F16 F11 F19 F20) 0 K Try.f7 la7 dq7.k 2 [m1] n (hd7_2 a0 a1 a2 q0 q1 q2 q3 q4 q5)) ps10 ps11 ps12 ps14 ph13 ph36 := by kernel_rfl
    rw [h]
    simp only [lp7_2 F10 F16 F11 F19 F20 K a0 a1 a2 m1 n]
    rfl
theorem lp7_1 (F10 : (List (El T45)) → Option (Bool)) (F16 : (List (El T45)) → Option (Int)) (F11 : Option (Bool)) (F19 : (El T39) → Option (Int)) (F20 : (List (El T45)) → Int → Int → Option (Int)) (K : Nat) (a0 : List (El T45)) (a1 : Int) (a2 : List (El (.int .u8))) : ∀ (n : Nat) (ps10 : Int) (ps11 : Bool) (ps12 : Int) (ph36 : List (El T45)), loopN Try.prog (tab7 F10 F16 F11 F19 F20) 0 K Try.f7 la7 dq7.k 1 [] n (hd7_1 a0 a1 a2 ps10 ps11 ps12 ph36) = L7_1 F10 F16 F11 F19 F20 K a0 a1 a2 n ps10 ps11 ps12 ph36
  | 0, _, _, _, _ => by kernel_rfl
  | n + 1, ps10, ps11, ps12, ph36 => by
    have h : loopN Try.prog (tab7 F10 F16 F11 F19 F20) 0 K Try.f7 la7 dq7.k 1 [] (n + 1) (hd7_1 a0 a1 a2 ps10 ps11 ps12 ph36) = b7_1 F10 F16 F11 F19 F20 K a0 a1 a2 (fun q0 q1 q2 q3 => loopN Try.prog (tab7 F10 F16 F11 F19 F20) 0 K Try.f7 la7 dq7.k 1 [] n (hd7_1 a0 a1 a2 q0 q1 q2 q3)) (fun k q0 q1 q2 q3 q4 q5 => loopN Try.prog (tab7 F10 F16 F11 F19 F20) 0 K Try.f7 la7 dq7.k 2 [n] k (hd7_2 a0 a1 a2 q0 q1 q2 q3 q4 q5)) ps10 ps11 ps12 ph36 := by kernel_rfl
    rw [h]
    simp only [lp7_1 F10 F16 F11 F19 F20 K a0 a1 a2 n, lp7_2 F10 F16 F11 F19 F20 K a0 a1 a2 n]
    rfl
theorem lp7_0 (F10 : (List (El T45)) → Option (Bool)) (F16 : (List (El T45)) → Option (Int)) (F11 : Option (Bool)) (F19 : (El T39) → Option (Int)) (F20 : (List (El T45)) → Int → Int → Option (Int)) (K : Nat) (a0 : List (El T45)) (a1 : Int) (a2 : List (El (.int .u8))) : ∀ (n : Nat) (ps8 : Int) (ph36 : List (El T45)), loopN Try.prog (tab7 F10 F16 F11 F19 F20) 0 K Try.f7 la7 dq7.k 0 [] n (hd7_0 a0 a1 a2 ps8 ph36) = L7_0 F10 F16 F11 F19 F20 K a0 a1 a2 n ps8 ph36
  | 0, _, _ => by kernel_rfl
  | n + 1, ps8, ph36 => by
    have h : loopN Try.prog (tab7 F10 F16 F11 F19 F20) 0 K Try.f7 la7 dq7.k 0 [] (n + 1) (hd7_0 a0 a1 a2 ps8 ph36) = b7_0 F10 F16 F11 F19 F20 K a0 a1 a2 (fun q0 q1 => loopN Try.prog (tab7 F10 F16 F11 F19 F20) 0 K Try.f7 la7 dq7.k 0 [] n (hd7_0 a0 a1 a2 q0 q1)) (fun k q0 q1 q2 q3 => loopN Try.prog (tab7 F10 F16 F11 F19 F20) 0 K Try.f7 la7 dq7.k 1 [] k (hd7_1 a0 a1 a2 q0 q1 q2 q3)) ps8 ph36 := by kernel_rfl
    rw [h]
    simp only [lp7_0 F10 F16 F11 F19 F20 K a0 a1 a2 n, lp7_1 F10 F16 F11 F19 F20 K a0 a1 a2]
    rfl
theorem ev7 (F10 : (List (El T45)) → Option (Bool)) (F16 : (List (El T45)) → Option (Int)) (F11 : Option (Bool)) (F19 : (El T39) → Option (Int)) (F20 : (List (El T45)) → Int → Int → Option (Int)) (K : Nat) (a0 : List (El T45)) (a1 : Int) (a2 : List (El (.int .u8))) : evFun Try.prog (tab7 F10 F16 F11 F19 F20) 0 K Try.f7 la7 [.row T45 a0, I .u32 a1, .row (.int .u8) a2] [] dq7.k = G7 F10 F16 F11 F19 F20 K a0 a1 a2 := by
  have h : evFun Try.prog (tab7 F10 F16 F11 F19 F20) 0 K Try.f7 la7 [.row T45 a0, I .u32 a1, .row (.int .u8) a2] [] dq7.k = t7 F10 F16 F11 F19 F20 K a0 a1 a2 (fun k q0 q1 => loopN Try.prog (tab7 F10 F16 F11 F19 F20) 0 K Try.f7 la7 dq7.k 0 [] k (hd7_0 a0 a1 a2 q0 q1)) := by kernel_rfl
  rw [h]
  simp only [lp7_0 F10 F16 F11 F19 F20 K a0 a1 a2]
  rfl
noncomputable def F7 (K : Nat) (a0 : List (El T45)) (a1 : Int) (a2 : List (El (.int .u8))) : Option (Bool) := G7 (F10 K) (F16 K) (F11 K) (F19 K) (F20 K) K a0 a1 a2
theorem cok7 (K : Nat) : CallOK Try.prog (tab7 (F10 K) (F16 K) (F11 K) (F19 K) (F20 K)) := (add_ok (add_ok (add_ok (add_ok (add_ok none_ok ent10 (ok10 K)) ent16 (ok16 K)) ent11 (ok11 K)) ent19 (ok19 K)) ent20 (ok20 K))
theorem ok7 (K : Nat) : RowOK Try.prog 7 (row ad7 dq7 fun p => F7 K p.1 p.2.1 p.2.2) := row_ok fun x r h => has_of (cok7 K) Try.func7 ((ev7 (F10 K) (F16 K) (F11 K) (F19 K) (F20 K) K x.1 x.2.1 x.2.2).trans h)
/-! ganger/gangerlaw14.WaitsTime -/
noncomputable def tab8 (F10 : (List (El T45)) → Option (Bool)) (F16 : (List (El T45)) → Option (Int)) (F11 : Option (Bool)) (F12 : (List (El T45)) → Int → Option (List (El (.int .u32)))) (F20 : (List (El T45)) → Int → Int → Option (Int)) : Tab := (((((Tab.none.add 10 (row ad10 dq10 fun p => F10 p)).add 16 (row ad16 dq16 fun p => F16 p)).add 11 (row ad11 dq11 fun p => F11)).add 12 (row ad12 dq12 fun p => F12 p.1 p.2)).add 20 (row ad20 dq20 fun p => F20 p.1 p.2.1 p.2.2))
noncomputable def la8 : List (List Tidy) := [[.only [0, 1, 2, 7, 8, 9], .ids [17, 20, 27, 30, 36, 65, 81, 86, 131, 135, 144, 154, 157], .top [1000000]], [.only [0, 1, 2, 7, 8, 9, 10, 11], .ids [17, 20, 27, 30, 36, 39, 65, 81, 86, 131, 135, 144, 154, 157], .top [1000001]], [.only [0, 1, 2, 7, 8, 12], .ids [17, 20, 27, 30, 36, 39, 45, 135, 144, 154, 157], .top [1000002]], [.only [0, 1, 2, 7, 8, 12, 13, 14], .ids [17, 20, 27, 30, 36, 39, 45, 65, 81, 131, 135, 144, 154, 157], .top [1000003]], [.only [0, 1, 2, 15], .ids [17, 20, 27, 30, 36, 39, 45, 65, 81, 86, 131, 157], .top [1000004]]]
noncomputable def hd8_0 (a0 : List (El T45)) (a1 : Int) (a2 : Int) (ps9 : Int) (ph30 : List (Int)) (ph36 : List (Int)) : St := { tm := slots (nat_lit 158) [(nat_lit 0, AV.row T45 a0), (nat_lit 1, AV.sc (Value.int IntKind.i64 a1)), (nat_lit 2, AV.sc (Value.int IntKind.u16 a2)), (nat_lit 7, AV.own (nat_lit 30)), (nat_lit 8, AV.own (nat_lit 36)), (nat_lit 9, AV.sc (Value.int IntKind.i64 ps9))], H := [(nat_lit 30, ABlk.arr (nat_lit 30) (Ty.int IntKind.u32) ph30), (nat_lit 36, ABlk.arr (nat_lit 30) (Ty.int IntKind.u32) ph36)] }
noncomputable def hd8_1 (a0 : List (El T45)) (a1 : Int) (a2 : Int) (ps9 : Int) (ps10 : Bool) (ps11 : Int) (ph30 : List (Int)) (ph36 : List (Int)) : St := { tm := slots (nat_lit 158) [(nat_lit 0, AV.row T45 a0), (nat_lit 1, AV.sc (Value.int IntKind.i64 a1)), (nat_lit 2, AV.sc (Value.int IntKind.u16 a2)), (nat_lit 7, AV.own (nat_lit 30)), (nat_lit 8, AV.own (nat_lit 36)), (nat_lit 9, AV.sc (Value.int IntKind.i64 ps9)), (nat_lit 10, AV.sc (Value.bool ps10)), (nat_lit 11, AV.sc (Value.int IntKind.i64 ps11))], H := [(nat_lit 30, ABlk.arr (nat_lit 30) (Ty.int IntKind.u32) ph30), (nat_lit 36, ABlk.arr (nat_lit 30) (Ty.int IntKind.u32) ph36)] }
noncomputable def hd8_2 (a0 : List (El T45)) (a1 : Int) (a2 : Int) (ps12 : Int) (ph30 : List (Int)) (ph36 : List (Int)) : St := { tm := slots (nat_lit 158) [(nat_lit 0, AV.row T45 a0), (nat_lit 1, AV.sc (Value.int IntKind.i64 a1)), (nat_lit 2, AV.sc (Value.int IntKind.u16 a2)), (nat_lit 7, AV.own (nat_lit 30)), (nat_lit 8, AV.own (nat_lit 36)), (nat_lit 12, AV.sc (Value.int IntKind.i64 ps12))], H := [(nat_lit 30, ABlk.arr (nat_lit 30) (Ty.int IntKind.u32) ph30), (nat_lit 36, ABlk.arr (nat_lit 30) (Ty.int IntKind.u32) ph36)] }
noncomputable def hd8_3 (a0 : List (El T45)) (a1 : Int) (a2 : Int) (ps12 : Int) (ps13 : Bool) (ps14 : Int) (ph30 : List (Int)) (ph36 : List (Int)) : St := { tm := slots (nat_lit 158) [(nat_lit 0, AV.row T45 a0), (nat_lit 1, AV.sc (Value.int IntKind.i64 a1)), (nat_lit 2, AV.sc (Value.int IntKind.u16 a2)), (nat_lit 7, AV.own (nat_lit 30)), (nat_lit 8, AV.own (nat_lit 36)), (nat_lit 12, AV.sc (Value.int IntKind.i64 ps12)), (nat_lit 13, AV.sc (Value.bool ps13)), (nat_lit 14, AV.sc (Value.int IntKind.i64 ps14))], H := [(nat_lit 30, ABlk.arr (nat_lit 30) (Ty.int IntKind.u32) ph30), (nat_lit 36, ABlk.arr (nat_lit 30) (Ty.int IntKind.u32) ph36)] }
noncomputable def hd8_4 (a0 : List (El T45)) (a1 : Int) (a2 : Int) (ps15 : Int) (ph30 : List (Int)) (ph36 : List (Int)) : St := { tm := slots (nat_lit 158) [(nat_lit 0, AV.row T45 a0), (nat_lit 1, AV.sc (Value.int IntKind.i64 a1)), (nat_lit 2, AV.sc (Value.int IntKind.u16 a2)), (nat_lit 15, AV.sc (Value.int IntKind.i64 ps15))], H := [(nat_lit 30, ABlk.arr (nat_lit 30) (Ty.int IntKind.u32) ph30), (nat_lit 36, ABlk.arr (nat_lit 30) (Ty.int IntKind.u32) ph36)] }
noncomputable def b8_4 (F10 : (List (El T45)) → Option (Bool)) (F16 : (List (El T45)) → Option (Int)) (F11 : Option (Bool)) (F12 : (List (El T45)) → Int → Option (List (El (.int .u32)))) (F20 : (List (El T45)) → Int → Int → Option (Int)) (K : Nat) (a0 : List (El T45)) (a1 : Int) (a2 : Int) (r4 : Int → (List (Int)) → (List (Int)) → Option (Bool)) (ps15 : Int) (ph30 : List (Int)) (ph36 : List (Int)) : Option (Bool) :=(if decide (ps15 < (↑a0.length : Int)) = true then 
   (Option.bind (F20 a0 (IntKind.u32.wrap (IntKind.i64.wrap (ps15 + (1 : Int)))) a1) fun x8 => 
    (Option.bind (F20 a0 (IntKind.u32.wrap (IntKind.i64.wrap (ps15 + (1 : Int)))) (IntKind.i64.wrap (a1 + IntKind.i64.wrap a2))) fun x9 => (if (!(x8 == (3 : Int)) == (x9 == (3 : Int))) = true then some (false)
     else r4 (IntKind.i64.wrap (ps15 + (1 : Int))) (ph30) (ph36))))
  else 
   (Option.bind (F11) fun x10 => some (x10)))
noncomputable def L8_4 (F10 : (List (El T45)) → Option (Bool)) (F16 : (List (El T45)) → Option (Int)) (F11 : Option (Bool)) (F12 : (List (El T45)) → Int → Option (List (El (.int .u32)))) (F20 : (List (El T45)) → Int → Int → Option (Int)) (K : Nat) (a0 : List (El T45)) (a1 : Int) (a2 : Int) : Nat → Int → (List (Int)) → (List (Int)) → Option (Bool)
  | 0, _, _, _ => none
  | n + 1, ps15, ph30, ph36 => b8_4 F10 F16 F11 F12 F20 K a0 a1 a2 (L8_4 F10 F16 F11 F12 F20 K a0 a1 a2 n) ps15 ph30 ph36
noncomputable def b8_3 (F10 : (List (El T45)) → Option (Bool)) (F16 : (List (El T45)) → Option (Int)) (F11 : Option (Bool)) (F12 : (List (El T45)) → Int → Option (List (El (.int .u32)))) (F20 : (List (El T45)) → Int → Int → Option (Int)) (K : Nat) (a0 : List (El T45)) (a1 : Int) (a2 : Int) (r2 : Int → (List (Int)) → (List (Int)) → Option (Bool)) (r3 : Int → Bool → Int → (List (Int)) → (List (Int)) → Option (Bool)) (ps12 : Int) (ps13 : Bool) (ps14 : Int) (ph30 : List (Int)) (ph36 : List (Int)) : Option (Bool) :=(if decide (ps14 < (↑ph30.length : Int)) = true then (if ps13 = true then r3 (ps12) (true) (IntKind.i64.wrap (ps14 + (1 : Int))) (ph30) (ph36)
   else (if decide ((0 : Int) ≤ ps12 ∧ ps12 < (↑ph36.length : Int)) = true then (if decide ((0 : Int) ≤ ps14 ∧ ps14 < (↑ph30.length : Int)) = true then r3 (ps12) (ph36.getD ps12.toNat (zEl (Ty.int IntKind.u32)) == ph30.getD ps14.toNat (zEl (Ty.int IntKind.u32))) (IntKind.i64.wrap (ps14 + (1 : Int))) (ph30) (ph36)
     else none)
    else none))
  else (if decide ((0 : Int) ≤ ps12 ∧ ps12 < (↑ph36.length : Int)) = true then (if decide ((0 : Int) ≤ IntKind.u32.wrap (ph36.getD ps12.toNat (zEl (Ty.int IntKind.u32)) - (1 : Int)) ∧ IntKind.u32.wrap (ph36.getD ps12.toNat (zEl (Ty.int IntKind.u32)) - (1 : Int)) < (↑a0.length : Int)) = true then (if (ps13 == decide ((a0.getD (IntKind.u32.wrap (ph36.getD ps12.toNat (zEl (Ty.int IntKind.u32)) - (1 : Int))).toNat (zEl T45)).2.2.2.1.2.2.2.2.2.2.2.2.2.1 > a1)) = true then some (false)
     else (if decide ((0 : Int) ≤ ps12 ∧ ps12 < (↑ph36.length : Int)) = true then (if decide ((0 : Int) ≤ ps12 ∧ ps12 < (↑ph36.length : Int)) = true then (if decide ((0 : Int) ≤ IntKind.u32.wrap (ph36.getD ps12.toNat (zEl (Ty.int IntKind.u32)) - (1 : Int)) ∧ IntKind.u32.wrap (ph36.getD ps12.toNat (zEl (Ty.int IntKind.u32)) - (1 : Int)) < (↑a0.length : Int)) = true then 
         (Option.bind (F20 a0 (ph36.getD ps12.toNat (zEl (Ty.int IntKind.u32))) (a0.getD (IntKind.u32.wrap (ph36.getD ps12.toNat (zEl (Ty.int IntKind.u32)) - (1 : Int))).toNat (zEl T45)).2.2.2.1.2.2.2.2.2.2.2.2.2.1) fun x7 => (if (x7 != (2 : Int)) = true then some (false)
          else r2 (IntKind.i64.wrap (ps12 + (1 : Int))) (ph30) (ph36)))
        else none)
       else none)
      else none))
    else none)
   else none))
noncomputable def L8_3 (F10 : (List (El T45)) → Option (Bool)) (F16 : (List (El T45)) → Option (Int)) (F11 : Option (Bool)) (F12 : (List (El T45)) → Int → Option (List (El (.int .u32)))) (F20 : (List (El T45)) → Int → Int → Option (Int)) (K : Nat) (a0 : List (El T45)) (a1 : Int) (a2 : Int) (r2 : Int → (List (Int)) → (List (Int)) → Option (Bool)) : Nat → Int → Bool → Int → (List (Int)) → (List (Int)) → Option (Bool)
  | 0, _, _, _, _, _ => none
  | n + 1, ps12, ps13, ps14, ph30, ph36 => b8_3 F10 F16 F11 F12 F20 K a0 a1 a2 r2 (L8_3 F10 F16 F11 F12 F20 K a0 a1 a2 r2 n) ps12 ps13 ps14 ph30 ph36
noncomputable def b8_2 (F10 : (List (El T45)) → Option (Bool)) (F16 : (List (El T45)) → Option (Int)) (F11 : Option (Bool)) (F12 : (List (El T45)) → Int → Option (List (El (.int .u32)))) (F20 : (List (El T45)) → Int → Int → Option (Int)) (K : Nat) (a0 : List (El T45)) (a1 : Int) (a2 : Int) (r2 : Int → (List (Int)) → (List (Int)) → Option (Bool)) (l3 : Nat → Int → Bool → Int → (List (Int)) → (List (Int)) → Option (Bool)) (l4 : Nat → Int → (List (Int)) → (List (Int)) → Option (Bool)) (ps12 : Int) (ph30 : List (Int)) (ph36 : List (Int)) : Option (Bool) :=(if decide (ps12 < (↑ph36.length : Int)) = true then (if decide ((0 : Int) ≤ ps12 ∧ ps12 < (↑ph36.length : Int)) = true then (if (ph36.getD ps12.toNat (zEl (Ty.int IntKind.u32)) == (0 : Int)) = true then some (false)
    else (if decide ((0 : Int) ≤ ps12 ∧ ps12 < (↑ph36.length : Int)) = true then (if decide (IntKind.i64.wrap (ph36.getD ps12.toNat (zEl (Ty.int IntKind.u32))) > (↑a0.length : Int)) = true then some (false)
      else l3 K (ps12) (false) ((0 : Int)) (ph30) (ph36))
     else none))
   else none)
  else l4 K ((0 : Int)) (ph30) (ph36))
noncomputable def L8_2 (F10 : (List (El T45)) → Option (Bool)) (F16 : (List (El T45)) → Option (Int)) (F11 : Option (Bool)) (F12 : (List (El T45)) → Int → Option (List (El (.int .u32)))) (F20 : (List (El T45)) → Int → Int → Option (Int)) (K : Nat) (a0 : List (El T45)) (a1 : Int) (a2 : Int) : Nat → Int → (List (Int)) → (List (Int)) → Option (Bool)
  | 0, _, _, _ => none
  | n + 1, ps12, ph30, ph36 => b8_2 F10 F16 F11 F12 F20 K a0 a1 a2 (L8_2 F10 F16 F11 F12 F20 K a0 a1 a2 n) (L8_3 F10 F16 F11 F12 F20 K a0 a1 a2 (L8_2 F10 F16 F11 F12 F20 K a0 a1 a2 n)) (L8_4 F10 F16 F11 F12 F20 K a0 a1 a2) ps12 ph30 ph36
noncomputable def b8_1 (F10 : (List (El T45)) → Option (Bool)) (F16 : (List (El T45)) → Option (Int)) (F11 : Option (Bool)) (F12 : (List (El T45)) → Int → Option (List (El (.int .u32)))) (F20 : (List (El T45)) → Int → Int → Option (Int)) (K : Nat) (a0 : List (El T45)) (a1 : Int) (a2 : Int) (r0 : Int → (List (Int)) → (List (Int)) → Option (Bool)) (r1 : Int → Bool → Int → (List (Int)) → (List (Int)) → Option (Bool)) (ps9 : Int) (ps10 : Bool) (ps11 : Int) (ph30 : List (Int)) (ph36 : List (Int)) : Option (Bool) :=(if decide (ps11 < (↑ph36.length : Int)) = true then (if ps10 = true then r1 (ps9) (true) (IntKind.i64.wrap (ps11 + (1 : Int))) (ph30) (ph36)
   else (if decide ((0 : Int) ≤ ps9 ∧ ps9 < (↑ph30.length : Int)) = true then (if decide ((0 : Int) ≤ ps11 ∧ ps11 < (↑ph36.length : Int)) = true then r1 (ps9) (ph30.getD ps9.toNat (zEl (Ty.int IntKind.u32)) == ph36.getD ps11.toNat (zEl (Ty.int IntKind.u32))) (IntKind.i64.wrap (ps11 + (1 : Int))) (ph30) (ph36)
     else none)
    else none))
  else (if (!ps10) = true then some (false)
   else r0 (IntKind.i64.wrap (ps9 + (1 : Int))) (ph30) (ph36)))
noncomputable def L8_1 (F10 : (List (El T45)) → Option (Bool)) (F16 : (List (El T45)) → Option (Int)) (F11 : Option (Bool)) (F12 : (List (El T45)) → Int → Option (List (El (.int .u32)))) (F20 : (List (El T45)) → Int → Int → Option (Int)) (K : Nat) (a0 : List (El T45)) (a1 : Int) (a2 : Int) (r0 : Int → (List (Int)) → (List (Int)) → Option (Bool)) : Nat → Int → Bool → Int → (List (Int)) → (List (Int)) → Option (Bool)
  | 0, _, _, _, _, _ => none
  | n + 1, ps9, ps10, ps11, ph30, ph36 => b8_1 F10 F16 F11 F12 F20 K a0 a1 a2 r0 (L8_1 F10 F16 F11 F12 F20 K a0 a1 a2 r0 n) ps9 ps10 ps11 ph30 ph36
noncomputable def b8_0 (F10 : (List (El T45)) → Option (Bool)) (F16 : (List (El T45)) → Option (Int)) (F11 : Option (Bool)) (F12 : (List (El T45)) → Int → Option (List (El (.int .u32)))) (F20 : (List (El T45)) → Int → Int → Option (Int)) (K : Nat) (a0 : List (El T45)) (a1 : Int) (a2 : Int) (r0 : Int → (List (Int)) → (List (Int)) → Option (Bool)) (l1 : Nat → Int → Bool → Int → (List (Int)) → (List (Int)) → Option (Bool)) (l2 : Nat → Int → (List (Int)) → (List (Int)) → Option (Bool)) (ps9 : Int) (ph30 : List (Int)) (ph36 : List (Int)) : Option (Bool) :=(if decide (ps9 < (↑ph30.length : Int)) = true then l1 K (ps9) (false) ((0 : Int)) (ph30) (ph36)
  else l2 K ((0 : Int)) (ph30) (ph36))
noncomputable def L8_0 (F10 : (List (El T45)) → Option (Bool)) (F16 : (List (El T45)) → Option (Int)) (F11 : Option (Bool)) (F12 : (List (El T45)) → Int → Option (List (El (.int .u32)))) (F20 : (List (El T45)) → Int → Int → Option (Int)) (K : Nat) (a0 : List (El T45)) (a1 : Int) (a2 : Int) : Nat → Int → (List (Int)) → (List (Int)) → Option (Bool)
  | 0, _, _, _ => none
  | n + 1, ps9, ph30, ph36 => b8_0 F10 F16 F11 F12 F20 K a0 a1 a2 (L8_0 F10 F16 F11 F12 F20 K a0 a1 a2 n) (L8_1 F10 F16 F11 F12 F20 K a0 a1 a2 (L8_0 F10 F16 F11 F12 F20 K a0 a1 a2 n)) (L8_2 F10 F16 F11 F12 F20 K a0 a1 a2) ps9 ph30 ph36
noncomputable def t8 (F10 : (List (El T45)) → Option (Bool)) (F16 : (List (El T45)) → Option (Int)) (F11 : Option (Bool)) (F12 : (List (El T45)) → Int → Option (List (El (.int .u32)))) (F20 : (List (El T45)) → Int → Int → Option (Int)) (K : Nat) (a0 : List (El T45)) (a1 : Int) (a2 : Int) (l0 : Nat → Int → (List (Int)) → (List (Int)) → Option (Bool)) : Option (Bool) := 
 (Option.bind (F10 a0) fun x0 => (if x0 = true then 
   (Option.bind (F11) fun x1 => some (x1))
  else 
   (Option.bind (F16 a0) fun x2 => (if (x2 != (0 : Int)) = true then 
     (Option.bind (F11) fun x3 => some (x3))
    else (if decide (a1 > (1125899906842624 : Int)) = true then 
      (Option.bind (F11) fun x4 => some (x4))
     else 
      (Option.bind (F12 a0 a1) fun x5 => 
       (Option.bind (F12 a0 (IntKind.i64.wrap (a1 + IntKind.i64.wrap a2))) fun x6 => l0 K ((0 : Int)) (x5) (x6))))))))
noncomputable def G8 (F10 : (List (El T45)) → Option (Bool)) (F16 : (List (El T45)) → Option (Int)) (F11 : Option (Bool)) (F12 : (List (El T45)) → Int → Option (List (El (.int .u32)))) (F20 : (List (El T45)) → Int → Int → Option (Int)) (K : Nat) (a0 : List (El T45)) (a1 : Int) (a2 : Int) : Option (Bool) := t8 F10 F16 F11 F12 F20 K a0 a1 a2 (L8_0 F10 F16 F11 F12 F20 K a0 a1 a2)
theorem lp8_4 (F10 : (List (El T45)) → Option (Bool)) (F16 : (List (El T45)) → Option (Int)) (F11 : Option (Bool)) (F12 : (List (El T45)) → Int → Option (List (El (.int .u32)))) (F20 : (List (El T45)) → Int → Int → Option (Int)) (K : Nat) (a0 : List (El T45)) (a1 : Int) (a2 : Int) : ∀ (n : Nat) (ps15 : Int) (ph30 : List (Int)) (ph36 : List (Int)), loopN Try.prog (tab8 F10 F16 F11 F12 F20) 0 K Try.f8 la8 dq8.k 4 [] n (hd8_4 a0 a1 a2 ps15 ph30 ph36) = L8_4 F10 F16 F11 F12 F20 K a0 a1 a2 n ps15 ph30 ph36
  | 0, _, _, _ => by kernel_rfl
  | n + 1, ps15, ph30, ph36 => by
    have h : loopN Try.prog (tab8 F10 F16 F11 F12 F20) 0 K Try.f8 la8 dq8.k 4 [] (n + 1) (hd8_4 a0 a1 a2 ps15 ph30 ph36) = b8_4 F10 F16 F11 F12 F20 K a0 a1 a2 (fun q0 q1 q2 => loopN Try.prog (tab8 F10 F16 F11 F12 F20) 0 K Try.f8 la8 dq8.k 4 [] n (hd8_4 a0 a1 a2 q0 q1 q2)) ps15 ph30 ph36 := by kernel_rfl
    rw [h]
    simp only [lp8_4 F10 F16 F11 F12 F20 K a0 a1 a2 n]
    rfl
theorem lp8_3 (F10 : (List (El T45)) → Option (Bool)) (F16 : (List (El T45)) → Option (Int)) (F11 : Option (Bool)) (F12 : (List (El T45)) → Int → Option (List (El (.int .u32)))) (F20 : (List (El T45)) → Int → Int → Option (Int)) (K : Nat) (a0 : List (El T45)) (a1 : Int) (a2 : Int) : ∀ (m2 : Nat) (n : Nat) (ps12 : Int) (ps13 : Bool) (ps14 : Int) (ph30 : List (Int)) (ph36 : List (Int)), loopN Try.prog (tab8 F10 F16 F11 F12 F20) 0 K Try.f8 la8 dq8.k 3 [m2] n (hd8_3 a0 a1 a2 ps12 ps13 ps14 ph30 ph36) = L8_3 F10 F16 F11 F12 F20 K a0 a1 a2 (fun q0 q1 q2 => loopN Try.prog (tab8 F10 F16 F11 F12 F20) 0 K Try.f8 la8 dq8.k 2 [] m2 (hd8_2 a0 a1 a2 q0 q1 q2)) n ps12 ps13 ps14 ph30 ph36
  | m2, 0, _, _, _, _, _ => by kernel_rfl
  | m2, n + 1, ps12, ps13, ps14, ph30, ph36 => by
    have h : loopN Try.prog (tab8 F10 F16 F11 F12 F20) 0 K Try.f8 la8 dq8.k 3 [m2] (n + 1) (hd8_3 a0 a1 a2 ps12 ps13 ps14 ph30 ph36) = b8_3 F10 F16 F11 F12 F20 K a0 a1 a2 (fun q0 q1 q2 => loopN Try.prog (tab8 F10 F16 F11 F12 F20) 0 K Try.f8 la8 dq8.k 2 [] m2 (hd8_2 a0 a1 a2 q0 q1 q2)) (fun q0 q1 q2 q3 q4 => loopN Try.prog (tab8 F10 F16 F11 F12 F20) 0 K Try.f8 la8 dq8.k 3 [m2] n (hd8_3 a0 a1 a2 q0 q1 q2 q3 q4)) ps12 ps13 ps14 ph30 ph36 := by kernel_rfl
    rw [h]
    simp only [lp8_3 F10 F16 F11 F12 F20 K a0 a1 a2 m2 n]
    rfl
theorem lp8_2 (F10 : (List (El T45)) → Option (Bool)) (F16 : (List (El T45)) → Option (Int)) (F11 : Option (Bool)) (F12 : (List (El T45)) → Int → Option (List (El (.int .u32)))) (F20 : (List (El T45)) → Int → Int → Option (Int)) (K : Nat) (a0 : List (El T45)) (a1 : Int) (a2 : Int) : ∀ (n : Nat) (ps12 : Int) (ph30 : List (Int)) (ph36 : List (Int)), loopN Try.prog (tab8 F10 F16 F11 F12 F20) 0 K Try.f8 la8 dq8.k 2 [] n (hd8_2 a0 a1 a2 ps12 ph30 ph36) = L8_2 F10 F16 F11 F12 F20 K a0 a1 a2 n ps12 ph30 ph36
  | 0, _, _, _ => by kernel_rfl
  | n + 1, ps12, ph30, ph36 => by
    have h : loopN Try.prog (tab8 F10 F16 F11 F12 F20) 0 K Try.f8 la8 dq8.k 2 [] (n + 1) (hd8_2 a0 a1 a2 ps12 ph30 ph36) = b8_2 F10 F16 F11 F12 F20 K a0 a1 a2 (fun q0 q1 q2 => loopN Try.prog (tab8 F10 F16 F11 F12 F20) 0 K Try.f8 la8 dq8.k 2 [] n (hd8_2 a0 a1 a2 q0 q1 q2)) (fun k q0 q1 q2 q3 q4 => loopN Try.prog (tab8 F10 F16 F11 F12 F20) 0 K Try.f8 la8 dq8.k 3 [n] k (hd8_3 a0 a1 a2 q0 q1 q2 q3 q4)) (fun k q0 q1 q2 => loopN Try.prog (tab8 F10 F16 F11 F12 F20) 0 K Try.f8 la8 dq8.k 4 [] k (hd8_4 a0 a1 a2 q0 q1 q2)) ps12 ph30 ph36 := by kernel_rfl
    rw [h]
    simp only [lp8_2 F10 F16 F11 F12 F20 K a0 a1 a2 n, lp8_3 F10 F16 F11 F12 F20 K a0 a1 a2 n, lp8_4 F10 F16 F11 F12 F20 K a0 a1 a2]
    rfl
theorem lp8_1 (F10 : (List (El T45)) → Option (Bool)) (F16 : (List (El T45)) → Option (Int)) (F11 : Option (Bool)) (F12 : (List (El T45)) → Int → Option (List (El (.int .u32)))) (F20 : (List (El T45)) → Int → Int → Option (Int)) (K : Nat) (a0 : List (El T45)) (a1 : Int) (a2 : Int) : ∀ (m0 : Nat) (n : Nat) (ps9 : Int) (ps10 : Bool) (ps11 : Int) (ph30 : List (Int)) (ph36 : List (Int)), loopN Try.prog (tab8 F10 F16 F11 F12 F20) 0 K Try.f8 la8 dq8.k 1 [m0] n (hd8_1 a0 a1 a2 ps9 ps10 ps11 ph30 ph36) = L8_1 F10 F16 F11 F12 F20 K a0 a1 a2 (fun q0 q1 q2 => loopN Try.prog (tab8 F10 F16 F11 F12 F20) 0 K Try.f8 la8 dq8.k 0 [] m0 (hd8_0 a0 a1 a2 q0 q1 q2)) n ps9 ps10 ps11 ph30 ph36
  | m0, 0, _, _, _, _, _ => by kernel_rfl
  | m0, n + 1, ps9, ps10, ps11, ph30, ph36 => by
    have h : loopN Try.prog (tab8 F10 F16 F11 F12 F20) 0 K Try.f8 la8 dq8.k 1 [m0] (n + 1) (hd8_1 a0 a1 a2 ps9 ps10 ps11 ph30 ph36) = b8_1 F10 F16 F11 F12 F20 K a0 a1 a2 (fun q0 q1 q2 => loopN Try.prog (tab8 F10 F16 F11 F12 F20) 0 K Try.f8 la8 dq8.k 0 [] m0 (hd8_0 a0 a1 a2 q0 q1 q2)) (fun q0 q1 q2 q3 q4 => loopN Try.prog (tab8 F10 F16 F11 F12 F20) 0 K Try.f8 la8 dq8.k 1 [m0] n (hd8_1 a0 a1 a2 q0 q1 q2 q3 q4)) ps9 ps10 ps11 ph30 ph36 := by kernel_rfl
    rw [h]
    simp only [lp8_1 F10 F16 F11 F12 F20 K a0 a1 a2 m0 n]
    rfl
theorem lp8_0 (F10 : (List (El T45)) → Option (Bool)) (F16 : (List (El T45)) → Option (Int)) (F11 : Option (Bool)) (F12 : (List (El T45)) → Int → Option (List (El (.int .u32)))) (F20 : (List (El T45)) → Int → Int → Option (Int)) (K : Nat) (a0 : List (El T45)) (a1 : Int) (a2 : Int) : ∀ (n : Nat) (ps9 : Int) (ph30 : List (Int)) (ph36 : List (Int)), loopN Try.prog (tab8 F10 F16 F11 F12 F20) 0 K Try.f8 la8 dq8.k 0 [] n (hd8_0 a0 a1 a2 ps9 ph30 ph36) = L8_0 F10 F16 F11 F12 F20 K a0 a1 a2 n ps9 ph30 ph36
  | 0, _, _, _ => by kernel_rfl
  | n + 1, ps9, ph30, ph36 => by
    have h : loopN Try.prog (tab8 F10 F16 F11 F12 F20) 0 K Try.f8 la8 dq8.k 0 [] (n + 1) (hd8_0 a0 a1 a2 ps9 ph30 ph36) = b8_0 F10 F16 F11 F12 F20 K a0 a1 a2 (fun q0 q1 q2 => loopN Try.prog (tab8 F10 F16 F11 F12 F20) 0 K Try.f8 la8 dq8.k 0 [] n (hd8_0 a0 a1 a2 q0 q1 q2)) (fun k q0 q1 q2 q3 q4 => loopN Try.prog (tab8 F10 F16 F11 F12 F20) 0 K Try.f8 la8 dq8.k 1 [n] k (hd8_1 a0 a1 a2 q0 q1 q2 q3 q4)) (fun k q0 q1 q2 => loopN Try.prog (tab8 F10 F16 F11 F12 F20) 0 K Try.f8 la8 dq8.k 2 [] k (hd8_2 a0 a1 a2 q0 q1 q2)) ps9 ph30 ph36 := by kernel_rfl
    rw [h]
    simp only [lp8_0 F10 F16 F11 F12 F20 K a0 a1 a2 n, lp8_1 F10 F16 F11 F12 F20 K a0 a1 a2 n, lp8_2 F10 F16 F11 F12 F20 K a0 a1 a2]
    rfl
theorem ev8 (F10 : (List (El T45)) → Option (Bool)) (F16 : (List (El T45)) → Option (Int)) (F11 : Option (Bool)) (F12 : (List (El T45)) → Int → Option (List (El (.int .u32)))) (F20 : (List (El T45)) → Int → Int → Option (Int)) (K : Nat) (a0 : List (El T45)) (a1 : Int) (a2 : Int) : evFun Try.prog (tab8 F10 F16 F11 F12 F20) 0 K Try.f8 la8 [.row T45 a0, I .i64 a1, I .u16 a2] [] dq8.k = G8 F10 F16 F11 F12 F20 K a0 a1 a2 := by
  have h : evFun Try.prog (tab8 F10 F16 F11 F12 F20) 0 K Try.f8 la8 [.row T45 a0, I .i64 a1, I .u16 a2] [] dq8.k = t8 F10 F16 F11 F12 F20 K a0 a1 a2 (fun k q0 q1 q2 => loopN Try.prog (tab8 F10 F16 F11 F12 F20) 0 K Try.f8 la8 dq8.k 0 [] k (hd8_0 a0 a1 a2 q0 q1 q2)) := by kernel_rfl
  rw [h]
  simp only [lp8_0 F10 F16 F11 F12 F20 K a0 a1 a2]
  rfl
noncomputable def F8 (K : Nat) (a0 : List (El T45)) (a1 : Int) (a2 : Int) : Option (Bool) := G8 (F10 K) (F16 K) (F11 K) (F12 K) (F20 K) K a0 a1 a2
theorem cok8 (K : Nat) : CallOK Try.prog (tab8 (F10 K) (F16 K) (F11 K) (F12 K) (F20 K)) := (add_ok (add_ok (add_ok (add_ok (add_ok none_ok ent10 (ok10 K)) ent16 (ok16 K)) ent11 (ok11 K)) ent12 (ok12 K)) ent20 (ok20 K))
theorem ok8 (K : Nat) : RowOK Try.prog 8 (row ad8 dq8 fun p => F8 K p.1 p.2.1 p.2.2) := row_ok fun x r h => has_of (cok8 K) Try.func8 ((ev8 (F10 K) (F16 K) (F11 K) (F12 K) (F20 K) K x.1 x.2.1 x.2.2).trans h)
/-! ganger/gangerlaw14.WaitsSays -/
noncomputable def tab9 (F10 : (List (El T45)) → Option (Bool)) (F11 : Option (Bool)) (F16 : (List (El T45)) → Option (Int)) (F21 : (List (El T45)) → Option (Int)) (F22 : (El T45) → Option (Int)) (F23 : (El T45) → Option (Int)) (F24 : (List (El T45)) → Int → Option (Bool)) (F25 : (List (El T45)) → Int → Option (Bool)) (F26 : (List (El T45)) → Int → Option (Bool)) (F27 : (List (El T45)) → Int → Option (Bool)) (F20 : (List (El T45)) → Int → Int → Option (Int)) (F28 : (List (El T45)) → Int → Int → Option (Int)) : Tab := ((((((((((((Tab.none.add 10 (row ad10 dq10 fun p => F10 p)).add 11 (row ad11 dq11 fun p => F11)).add 16 (row ad16 dq16 fun p => F16 p)).add 21 (row ad21 dq21 fun p => F21 p)).add 22 (row ad22 dq22 fun p => F22 p)).add 23 (row ad23 dq23 fun p => F23 p)).add 24 (row ad24 dq24 fun p => F24 p.1 p.2)).add 25 (row ad25 dq25 fun p => F25 p.1 p.2)).add 26 (row ad26 dq26 fun p => F26 p.1 p.2)).add 27 (row ad27 dq27 fun p => F27 p.1 p.2)).add 20 (row ad20 dq20 fun p => F20 p.1 p.2.1 p.2.2)).add 28 (row ad28 dq28 fun p => F28 p.1 p.2.1 p.2.2))
noncomputable def la9 : List (List Tidy) := [[.only [0, 1, 2, 7], .ids [9, 10, 12, 14, 35, 38, 43, 46, 53, 57, 61], .top [1000000]]]
noncomputable def hd9_0 (a0 : List (El T45)) (a1 : Int) (a2 : Int) (ps7 : Int) : St := { tm := slots (nat_lit 63) [(nat_lit 0, AV.row T45 a0), (nat_lit 1, AV.sc (Value.int IntKind.u32 a1)), (nat_lit 2, AV.sc (Value.int IntKind.i64 a2)), (nat_lit 7, AV.sc (Value.int IntKind.i64 ps7))], H := [] }
noncomputable def b9_0 (F10 : (List (El T45)) → Option (Bool)) (F11 : Option (Bool)) (F16 : (List (El T45)) → Option (Int)) (F21 : (List (El T45)) → Option (Int)) (F22 : (El T45) → Option (Int)) (F23 : (El T45) → Option (Int)) (F24 : (List (El T45)) → Int → Option (Bool)) (F25 : (List (El T45)) → Int → Option (Bool)) (F26 : (List (El T45)) → Int → Option (Bool)) (F27 : (List (El T45)) → Int → Option (Bool)) (F20 : (List (El T45)) → Int → Int → Option (Int)) (F28 : (List (El T45)) → Int → Int → Option (Int)) (K : Nat) (a0 : List (El T45)) (a1 : Int) (a2 : Int) (r0 : Int → Option (Bool)) (ps7 : Int) : Option (Bool) :=(if decide (ps7 < (↑a0.length : Int)) = true then (if decide ((0 : Int) ≤ ps7 ∧ ps7 < (↑a0.length : Int)) = true then 
    (Option.bind (F22 (a0.getD ps7.toNat (zEl T45))) fun x4 => (if decide ((0 : Int) ≤ ps7 ∧ ps7 < (↑a0.length : Int)) = true then 
      (Option.bind (F23 (a0.getD ps7.toNat (zEl T45))) fun x5 => (if (x4 != x5) = true then some (false)
       else r0 (IntKind.i64.wrap (ps7 + (1 : Int)))))
     else none))
   else none)
  else 
   (Option.bind (F24 a0 a1) fun x6 => 
    (Option.bind (F25 a0 a1) fun x7 => (if (x6 == x7) = true then 
      (Option.bind (F26 a0 a1) fun x8 => 
       (Option.bind (F27 a0 a1) fun x9 => (if (x8 == x9) = true then 
         (Option.bind (F20 a0 a1 a2) fun x10 => 
          (Option.bind (F28 a0 a1 a2) fun x11 => (if (x10 == x11) = true then 
            (Option.bind (F11) fun x12 => some (x12))
           else some (false))))
        else some (false))))
     else some (false)))))
noncomputable def L9_0 (F10 : (List (El T45)) → Option (Bool)) (F11 : Option (Bool)) (F16 : (List (El T45)) → Option (Int)) (F21 : (List (El T45)) → Option (Int)) (F22 : (El T45) → Option (Int)) (F23 : (El T45) → Option (Int)) (F24 : (List (El T45)) → Int → Option (Bool)) (F25 : (List (El T45)) → Int → Option (Bool)) (F26 : (List (El T45)) → Int → Option (Bool)) (F27 : (List (El T45)) → Int → Option (Bool)) (F20 : (List (El T45)) → Int → Int → Option (Int)) (F28 : (List (El T45)) → Int → Int → Option (Int)) (K : Nat) (a0 : List (El T45)) (a1 : Int) (a2 : Int) : Nat → Int → Option (Bool)
  | 0, _ => none
  | n + 1, ps7 => b9_0 F10 F11 F16 F21 F22 F23 F24 F25 F26 F27 F20 F28 K a0 a1 a2 (L9_0 F10 F11 F16 F21 F22 F23 F24 F25 F26 F27 F20 F28 K a0 a1 a2 n) ps7
noncomputable def t9 (F10 : (List (El T45)) → Option (Bool)) (F11 : Option (Bool)) (F16 : (List (El T45)) → Option (Int)) (F21 : (List (El T45)) → Option (Int)) (F22 : (El T45) → Option (Int)) (F23 : (El T45) → Option (Int)) (F24 : (List (El T45)) → Int → Option (Bool)) (F25 : (List (El T45)) → Int → Option (Bool)) (F26 : (List (El T45)) → Int → Option (Bool)) (F27 : (List (El T45)) → Int → Option (Bool)) (F20 : (List (El T45)) → Int → Int → Option (Int)) (F28 : (List (El T45)) → Int → Int → Option (Int)) (K : Nat) (a0 : List (El T45)) (a1 : Int) (a2 : Int) (l0 : Nat → Int → Option (Bool)) : Option (Bool) := 
 (Option.bind (F10 a0) fun x0 => (if x0 = true then 
   (Option.bind (F11) fun x1 => some (x1))
  else 
   (Option.bind (F16 a0) fun x2 => 
    (Option.bind (F21 a0) fun x3 => (if (x2 != x3) = true then some (false)
     else l0 K ((0 : Int)))))))
noncomputable def G9 (F10 : (List (El T45)) → Option (Bool)) (F11 : Option (Bool)) (F16 : (List (El T45)) → Option (Int)) (F21 : (List (El T45)) → Option (Int)) (F22 : (El T45) → Option (Int)) (F23 : (El T45) → Option (Int)) (F24 : (List (El T45)) → Int → Option (Bool)) (F25 : (List (El T45)) → Int → Option (Bool)) (F26 : (List (El T45)) → Int → Option (Bool)) (F27 : (List (El T45)) → Int → Option (Bool)) (F20 : (List (El T45)) → Int → Int → Option (Int)) (F28 : (List (El T45)) → Int → Int → Option (Int)) (K : Nat) (a0 : List (El T45)) (a1 : Int) (a2 : Int) : Option (Bool) := t9 F10 F11 F16 F21 F22 F23 F24 F25 F26 F27 F20 F28 K a0 a1 a2 (L9_0 F10 F11 F16 F21 F22 F23 F24 F25 F26 F27 F20 F28 K a0 a1 a2)
theorem lp9_0 (F10 : (List (El T45)) → Option (Bool)) (F11 : Option (Bool)) (F16 : (List (El T45)) → Option (Int)) (F21 : (List (El T45)) → Option (Int)) (F22 : (El T45) → Option (Int)) (F23 : (El T45) → Option (Int)) (F24 : (List (El T45)) → Int → Option (Bool)) (F25 : (List (El T45)) → Int → Option (Bool)) (F26 : (List (El T45)) → Int → Option (Bool)) (F27 : (List (El T45)) → Int → Option (Bool)) (F20 : (List (El T45)) → Int → Int → Option (Int)) (F28 : (List (El T45)) → Int → Int → Option (Int)) (K : Nat) (a0 : List (El T45)) (a1 : Int) (a2 : Int) : ∀ (n : Nat) (ps7 : Int), loopN Try.prog (tab9 F10 F11 F16 F21 F22 F23 F24 F25 F26 F27 F20 F28) 0 K Try.f9 la9 dq9.k 0 [] n (hd9_0 a0 a1 a2 ps7) = L9_0 F10 F11 F16 F21 F22 F23 F24 F25 F26 F27 F20 F28 K a0 a1 a2 n ps7
  | 0, _ => by kernel_rfl
  | n + 1, ps7 => by
    have h : loopN Try.prog (tab9 F10 F11 F16 F21 F22 F23 F24 F25 F26 F27 F20 F28) 0 K Try.f9 la9 dq9.k 0 [] (n + 1) (hd9_0 a0 a1 a2 ps7) = b9_0 F10 F11 F16 F21 F22 F23 F24 F25 F26 F27 F20 F28 K a0 a1 a2 (fun q0 => loopN Try.prog (tab9 F10 F11 F16 F21 F22 F23 F24 F25 F26 F27 F20 F28) 0 K Try.f9 la9 dq9.k 0 [] n (hd9_0 a0 a1 a2 q0)) ps7 := by kernel_rfl
    rw [h]
    simp only [lp9_0 F10 F11 F16 F21 F22 F23 F24 F25 F26 F27 F20 F28 K a0 a1 a2 n]
    rfl
theorem ev9 (F10 : (List (El T45)) → Option (Bool)) (F11 : Option (Bool)) (F16 : (List (El T45)) → Option (Int)) (F21 : (List (El T45)) → Option (Int)) (F22 : (El T45) → Option (Int)) (F23 : (El T45) → Option (Int)) (F24 : (List (El T45)) → Int → Option (Bool)) (F25 : (List (El T45)) → Int → Option (Bool)) (F26 : (List (El T45)) → Int → Option (Bool)) (F27 : (List (El T45)) → Int → Option (Bool)) (F20 : (List (El T45)) → Int → Int → Option (Int)) (F28 : (List (El T45)) → Int → Int → Option (Int)) (K : Nat) (a0 : List (El T45)) (a1 : Int) (a2 : Int) : evFun Try.prog (tab9 F10 F11 F16 F21 F22 F23 F24 F25 F26 F27 F20 F28) 0 K Try.f9 la9 [.row T45 a0, I .u32 a1, I .i64 a2] [] dq9.k = G9 F10 F11 F16 F21 F22 F23 F24 F25 F26 F27 F20 F28 K a0 a1 a2 := by
  have h : evFun Try.prog (tab9 F10 F11 F16 F21 F22 F23 F24 F25 F26 F27 F20 F28) 0 K Try.f9 la9 [.row T45 a0, I .u32 a1, I .i64 a2] [] dq9.k = t9 F10 F11 F16 F21 F22 F23 F24 F25 F26 F27 F20 F28 K a0 a1 a2 (fun k q0 => loopN Try.prog (tab9 F10 F11 F16 F21 F22 F23 F24 F25 F26 F27 F20 F28) 0 K Try.f9 la9 dq9.k 0 [] k (hd9_0 a0 a1 a2 q0)) := by kernel_rfl
  rw [h]
  simp only [lp9_0 F10 F11 F16 F21 F22 F23 F24 F25 F26 F27 F20 F28 K a0 a1 a2]
  rfl
noncomputable def F9 (K : Nat) (a0 : List (El T45)) (a1 : Int) (a2 : Int) : Option (Bool) := G9 (F10 K) (F11 K) (F16 K) (F21 K) (F22 K) (F23 K) (F24 K) (F25 K) (F26 K) (F27 K) (F20 K) (F28 K) K a0 a1 a2
theorem cok9 (K : Nat) : CallOK Try.prog (tab9 (F10 K) (F11 K) (F16 K) (F21 K) (F22 K) (F23 K) (F24 K) (F25 K) (F26 K) (F27 K) (F20 K) (F28 K)) := (add_ok (add_ok (add_ok (add_ok (add_ok (add_ok (add_ok (add_ok (add_ok (add_ok (add_ok (add_ok none_ok ent10 (ok10 K)) ent11 (ok11 K)) ent16 (ok16 K)) ent21 (ok21 K)) ent22 (ok22 K)) ent23 (ok23 K)) ent24 (ok24 K)) ent25 (ok25 K)) ent26 (ok26 K)) ent27 (ok27 K)) ent20 (ok20 K)) ent28 (ok28 K))
theorem ok9 (K : Nat) : RowOK Try.prog 9 (row ad9 dq9 fun p => F9 K p.1 p.2.1 p.2.2) := row_ok fun x r h => has_of (cok9 K) Try.func9 ((ev9 (F10 K) (F11 K) (F16 K) (F21 K) (F22 K) (F23 K) (F24 K) (F25 K) (F26 K) (F27 K) (F20 K) (F28 K) K x.1 x.2.1 x.2.2).trans h)
end Go.Proofs.YthebmlpohkfhbaaE
