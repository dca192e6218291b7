import Derived.Test.YthebmlpohkfhbaaS14F4
set_option linter.all false
namespace Go.Proofs.YthebmlpohkfhbaaE
open Go Go.Proofs
set_option maxRecDepth 100000
set_option linter.unusedVariables false
/-! ganger/gangerref14.Say -/
noncomputable def tab28 (F35 : (List (El T45)) → Int → Option (Bool)) (F23 : (El T45) → Option (Int)) (F25 : (List (El T45)) → Int → Option (Bool)) (F37 : (El T39) → (List (El T70)) → Bool → Option (Int)) (F27 : (List (El T45)) → Int → Option (Bool)) : Tab := (((((Tab.none.add 35 (row ad35 dq35 fun p => F35 p.1 p.2)).add 23 (row ad23 dq23 fun p => F23 p)).add 25 (row ad25 dq25 fun p => F25 p.1 p.2)).add 37 (row ad37 dq37 fun p => F37 p.1 p.2.1 p.2.2)).add 27 (row ad27 dq27 fun p => F27 p.1 p.2))
noncomputable def la28 : List (List Tidy) := [[.only [0, 1, 2, 7, 8, 9], .pro 8 48 70 (T70), .ids [7, 13, 48, 55, 56, 73], .top [1000000]]]
noncomputable def hd28_0 (a0 : List (El T45)) (a1 : Int) (a2 : Int) (ps9 : Int) (ph48 : List (El T70)) : St := { tm := slots (nat_lit 78) [(nat_lit 0, AV.row T45 a0), (nat_lit 1, AV.sc (Value.int IntKind.u32 a1)), (nat_lit 2, AV.sc (Value.int IntKind.i64 a2)), (nat_lit 7, AV.ptr (nat_lit 7) (nat_lit 0)), (nat_lit 8, AV.own (nat_lit 48)), (nat_lit 9, AV.sc (Value.int IntKind.i64 ps9))], H := [(nat_lit 7, ABlk.box (nat_lit 45) (cellsOf T45 (a0.getD (IntKind.u32.wrap (a1 - (1 : Int))).toNat (zEl T45)))), (nat_lit 48, ABlk.arr (nat_lit 70) T70 ph48)] }
noncomputable def b28_0 (F35 : (List (El T45)) → Int → Option (Bool)) (F23 : (El T45) → Option (Int)) (F25 : (List (El T45)) → Int → Option (Bool)) (F37 : (El T39) → (List (El T70)) → Bool → Option (Int)) (F27 : (List (El T45)) → Int → Option (Bool)) (K : Nat) (a0 : List (El T45)) (a1 : Int) (a2 : Int) (r0 : Int → (List (El T70)) → Option (Int)) (ps9 : Int) (ph48 : List (El T70)) : Option (Int) :=(if decide (ps9 < (↑a0.length : Int)) = true then (if decide ((0 : Int) ≤ ps9 ∧ ps9 < (↑a0.length : Int)) = true then (if decide ((0 : Int) ≤ ps9 ∧ ps9 < (↑a0.length : Int)) = true then 
     (Option.bind (F23 (a0.getD ps9.toNat (zEl T45))) fun x1 => (if decide ((ph48.length + [((a0.getD ps9.toNat (zEl T45)).1, x1)].length) * Try.prog.types[(70 : Nat)].bytes ≤ (140737488355328 : Nat)) = true then r0 (IntKind.i64.wrap (ps9 + (1 : Int))) (ph48 ++ [((a0.getD ps9.toNat (zEl T45)).1, x1)])
      else none))
    else none)
   else none)
  else 
   (Option.bind (F25 a0 a1) fun x2 => 
    (Option.bind (F37 (a0.getD (IntKind.u32.wrap (a1 - (1 : Int))).toNat (zEl T45)).2.2.2.1.2.2.2.2.2.2.2.1 ph48 x2) fun x3 => (if (x3 == (2 : Int)) = true then (if ((a0.getD (IntKind.u32.wrap (a1 - (1 : Int))).toNat (zEl T45)).2.2.2.2.2.1 == (2 : Int)) = true then some ((1 : Int))
      else (if decide ((a0.getD (IntKind.u32.wrap (a1 - (1 : Int))).toNat (zEl T45)).2.2.2.1.2.2.2.2.2.2.2.2.2.1 > a2) = true then some ((1 : Int))
       else 
        (Option.bind (F27 a0 a1) fun x4 => (if (!x4) = true then some ((1 : Int))
         else some (x3)))))
     else some (x3)))))
noncomputable def L28_0 (F35 : (List (El T45)) → Int → Option (Bool)) (F23 : (El T45) → Option (Int)) (F25 : (List (El T45)) → Int → Option (Bool)) (F37 : (El T39) → (List (El T70)) → Bool → Option (Int)) (F27 : (List (El T45)) → Int → Option (Bool)) (K : Nat) (a0 : List (El T45)) (a1 : Int) (a2 : Int) : Nat → Int → (List (El T70)) → Option (Int)
  | 0, _, _ => none
  | n + 1, ps9, ph48 => b28_0 F35 F23 F25 F37 F27 K a0 a1 a2 (L28_0 F35 F23 F25 F37 F27 K a0 a1 a2 n) ps9 ph48
noncomputable def t28 (F35 : (List (El T45)) → Int → Option (Bool)) (F23 : (El T45) → Option (Int)) (F25 : (List (El T45)) → Int → Option (Bool)) (F37 : (El T39) → (List (El T70)) → Bool → Option (Int)) (F27 : (List (El T45)) → Int → Option (Bool)) (K : Nat) (a0 : List (El T45)) (a1 : Int) (a2 : Int) (l0 : Nat → Int → (List (El T70)) → Option (Int)) : Option (Int) := 
 (Option.bind (F35 a0 a1) fun x0 => (if (!x0) = true then some ((0 : Int))
  else (if decide ((0 : Int) ≤ IntKind.u32.wrap (a1 - (1 : Int)) ∧ IntKind.u32.wrap (a1 - (1 : Int)) < (↑a0.length : Int)) = true then (if decide ((a0.getD (IntKind.u32.wrap (a1 - (1 : Int))).toNat (zEl T45)).2.2.2.2.2.1 > (2 : Int)) = true then some ((0 : Int))
    else (if decide ((0 : Int) ≤ IntKind.u32.wrap (a1 - (1 : Int)) ∧ IntKind.u32.wrap (a1 - (1 : Int)) < (↑a0.length : Int)) = true then l0 K ((0 : Int)) ([])
     else none))
   else none)))
noncomputable def G28 (F35 : (List (El T45)) → Int → Option (Bool)) (F23 : (El T45) → Option (Int)) (F25 : (List (El T45)) → Int → Option (Bool)) (F37 : (El T39) → (List (El T70)) → Bool → Option (Int)) (F27 : (List (El T45)) → Int → Option (Bool)) (K : Nat) (a0 : List (El T45)) (a1 : Int) (a2 : Int) : Option (Int) := t28 F35 F23 F25 F37 F27 K a0 a1 a2 (L28_0 F35 F23 F25 F37 F27 K a0 a1 a2)
theorem lp28_0 (F35 : (List (El T45)) → Int → Option (Bool)) (F23 : (El T45) → Option (Int)) (F25 : (List (El T45)) → Int → Option (Bool)) (F37 : (El T39) → (List (El T70)) → Bool → Option (Int)) (F27 : (List (El T45)) → Int → Option (Bool)) (K : Nat) (a0 : List (El T45)) (a1 : Int) (a2 : Int) : ∀ (n : Nat) (ps9 : Int) (ph48 : List (El T70)), loopN Try.prog (tab28 F35 F23 F25 F37 F27) 0 K Try.f28 la28 dq28.k 0 [] n (hd28_0 a0 a1 a2 ps9 ph48) = L28_0 F35 F23 F25 F37 F27 K a0 a1 a2 n ps9 ph48
  | 0, _, _ => by kernel_rfl
  | n + 1, ps9, ph48 => by
    have h : loopN Try.prog (tab28 F35 F23 F25 F37 F27) 0 K Try.f28 la28 dq28.k 0 [] (n + 1) (hd28_0 a0 a1 a2 ps9 ph48) = b28_0 F35 F23 F25 F37 F27 K a0 a1 a2 (fun q0 q1 => loopN Try.prog (tab28 F35 F23 F25 F37 F27) 0 K Try.f28 la28 dq28.k 0 [] n (hd28_0 a0 a1 a2 q0 q1)) ps9 ph48 := by kernel_rfl
    rw [h]
    simp only [lp28_0 F35 F23 F25 F37 F27 K a0 a1 a2 n]
    rfl
theorem ev28 (F35 : (List (El T45)) → Int → Option (Bool)) (F23 : (El T45) → Option (Int)) (F25 : (List (El T45)) → Int → Option (Bool)) (F37 : (El T39) → (List (El T70)) → Bool → Option (Int)) (F27 : (List (El T45)) → Int → Option (Bool)) (K : Nat) (a0 : List (El T45)) (a1 : Int) (a2 : Int) : evFun Try.prog (tab28 F35 F23 F25 F37 F27) 0 K Try.f28 la28 [.row T45 a0, I .u32 a1, I .i64 a2] [] dq28.k = G28 F35 F23 F25 F37 F27 K a0 a1 a2 := by
  have h : evFun Try.prog (tab28 F35 F23 F25 F37 F27) 0 K Try.f28 la28 [.row T45 a0, I .u32 a1, I .i64 a2] [] dq28.k = t28 F35 F23 F25 F37 F27 K a0 a1 a2 (fun k q0 q1 => loopN Try.prog (tab28 F35 F23 F25 F37 F27) 0 K Try.f28 la28 dq28.k 0 [] k (hd28_0 a0 a1 a2 q0 q1)) := by kernel_rfl
  rw [h]
  simp only [lp28_0 F35 F23 F25 F37 F27 K a0 a1 a2]
  rfl
noncomputable def F28 (K : Nat) (a0 : List (El T45)) (a1 : Int) (a2 : Int) : Option (Int) := G28 (F35 K) (F23 K) (F25 K) (F37 K) (F27 K) K a0 a1 a2
theorem cok28 (K : Nat) : CallOK Try.prog (tab28 (F35 K) (F23 K) (F25 K) (F37 K) (F27 K)) := (add_ok (add_ok (add_ok (add_ok (add_ok none_ok ent35 (ok35 K)) ent23 (ok23 K)) ent25 (ok25 K)) ent37 (ok37 K)) ent27 (ok27 K))
theorem ok28 (K : Nat) : RowOK Try.prog 28 (row ad28 dq28 fun p => F28 K p.1 p.2.1 p.2.2) := row_ok fun x r h => has_of (cok28 K) Try.func28 ((ev28 (F35 K) (F23 K) (F25 K) (F37 K) (F27 K) K x.1 x.2.1 x.2.2).trans h)
/-! ganger/waits.say -/
noncomputable def tab32 (F22 : (El T45) → Option (Int)) (F34 : (List (El T45)) → (El T45) → Option (Bool)) (F38 : (El T39) → (List (El T70)) → Bool → Option (Int)) (F36 : (List (El T45)) → (El T45) → Option (Bool)) : Tab := ((((Tab.none.add 22 (row ad22 dq22 fun p => F22 p)).add 34 (row ad34 dq34 fun p => F34 p.1 p.2)).add 38 (row ad38 dq38 fun p => F38 p.1 p.2.1 p.2.2)).add 36 (row ad36 dq36 fun p => F36 p.1 p.2))
noncomputable def t32 (F22 : (El T45) → Option (Int)) (F34 : (List (El T45)) → (El T45) → Option (Bool)) (F38 : (El T39) → (List (El T70)) → Bool → Option (Int)) (F36 : (List (El T45)) → (El T45) → Option (Bool)) (K : Nat) (a0 : List (El T45)) (a1 : List (El T70)) (a2 : El T45) (a3 : Int) : Option (Int) := 
 (Option.bind (F22 a2) fun x0 => (if (x0 != (1 : Int)) = true then some ((0 : Int))
  else 
   (Option.bind (F34 a0 a2) fun x1 => 
    (Option.bind (F38 a2.2.2.2.1.2.2.2.2.2.2.2.1 a1 x1) fun x2 => (if (x2 == (2 : Int)) = true then (if (a2.2.2.2.2.2.1 == (2 : Int)) = true then some ((1 : Int))
      else (if decide (a2.2.2.2.1.2.2.2.2.2.2.2.2.2.1 > a3) = true then some ((1 : Int))
       else 
        (Option.bind (F36 a0 a2) fun x3 => (if (!x3) = true then some ((1 : Int))
         else some (x2)))))
     else some (x2))))))
noncomputable def G32 (F22 : (El T45) → Option (Int)) (F34 : (List (El T45)) → (El T45) → Option (Bool)) (F38 : (El T39) → (List (El T70)) → Bool → Option (Int)) (F36 : (List (El T45)) → (El T45) → Option (Bool)) (K : Nat) (a0 : List (El T45)) (a1 : List (El T70)) (a2 : El T45) (a3 : Int) : Option (Int) := t32 F22 F34 F38 F36 K a0 a1 a2 a3
theorem ev32 (F22 : (El T45) → Option (Int)) (F34 : (List (El T45)) → (El T45) → Option (Bool)) (F38 : (El T39) → (List (El T70)) → Bool → Option (Int)) (F36 : (List (El T45)) → (El T45) → Option (Bool)) (K : Nat) (a0 : List (El T45)) (a1 : List (El T70)) (a2 : El T45) (a3 : Int) : evFun Try.prog (tab32 F22 F34 F38 F36) 0 K Try.f32 [] [.row T45 a0, .row T70 a1, .agg (cellsOf T45 a2), I .i64 a3] [] dq32.k = G32 F22 F34 F38 F36 K a0 a1 a2 a3 := by
  kernel_rfl
noncomputable def F32 (K : Nat) (a0 : List (El T45)) (a1 : List (El T70)) (a2 : El T45) (a3 : Int) : Option (Int) := G32 (F22 K) (F34 K) (F38 K) (F36 K) K a0 a1 a2 a3
theorem cok32 (K : Nat) : CallOK Try.prog (tab32 (F22 K) (F34 K) (F38 K) (F36 K)) := (add_ok (add_ok (add_ok (add_ok none_ok ent22 (ok22 K)) ent34 (ok34 K)) ent38 (ok38 K)) ent36 (ok36 K))
theorem ok32 (K : Nat) : RowOK Try.prog 32 (row ad32 dq32 fun p => F32 K p.1 p.2.1 p.2.2.1 p.2.2.2) := row_ok fun x r h => has_of (cok32 K) Try.func32 ((ev32 (F22 K) (F34 K) (F38 K) (F36 K) K x.1 x.2.1 x.2.2.1 x.2.2.2).trans h)
/-! ganger/waits.Say -/
noncomputable def tab20 (F31 : (List (El T45)) → Int → Option ((El T45) × Bool)) (F33 : (List (El T45)) → Option (List (El T70))) (F32 : (List (El T45)) → (List (El T70)) → (El T45) → Int → Option (Int)) : Tab := (((Tab.none.add 31 (row ad31 dq31 fun p => F31 p.1 p.2)).add 33 (row ad33 dq33 fun p => F33 p)).add 32 (row ad32 dq32 fun p => F32 p.1 p.2.1 p.2.2.1 p.2.2.2))
noncomputable def t20 (F31 : (List (El T45)) → Int → Option ((El T45) × Bool)) (F33 : (List (El T45)) → Option (List (El T70))) (F32 : (List (El T45)) → (List (El T70)) → (El T45) → Int → Option (Int)) (K : Nat) (a0 : List (El T45)) (a1 : Int) (a2 : Int) : Option (Int) := 
 (Option.bind (F31 a0 a1) fun x0 => (if (!x0.2) = true then some ((0 : Int))
  else 
   (Option.bind (F33 a0) fun x1 => 
    (Option.bind (F32 a0 x1 x0.1 a2) fun x2 => some (x2)))))
noncomputable def G20 (F31 : (List (El T45)) → Int → Option ((El T45) × Bool)) (F33 : (List (El T45)) → Option (List (El T70))) (F32 : (List (El T45)) → (List (El T70)) → (El T45) → Int → Option (Int)) (K : Nat) (a0 : List (El T45)) (a1 : Int) (a2 : Int) : Option (Int) := t20 F31 F33 F32 K a0 a1 a2
theorem ev20 (F31 : (List (El T45)) → Int → Option ((El T45) × Bool)) (F33 : (List (El T45)) → Option (List (El T70))) (F32 : (List (El T45)) → (List (El T70)) → (El T45) → Int → Option (Int)) (K : Nat) (a0 : List (El T45)) (a1 : Int) (a2 : Int) : evFun Try.prog (tab20 F31 F33 F32) 0 K Try.f20 [] [.row T45 a0, I .u32 a1, I .i64 a2] [] dq20.k = G20 F31 F33 F32 K a0 a1 a2 := by
  kernel_rfl
noncomputable def F20 (K : Nat) (a0 : List (El T45)) (a1 : Int) (a2 : Int) : Option (Int) := G20 (F31 K) (F33 K) (F32 K) K a0 a1 a2
theorem cok20 (K : Nat) : CallOK Try.prog (tab20 (F31 K) (F33 K) (F32 K)) := (add_ok (add_ok (add_ok none_ok ent31 (ok31 K)) ent33 (ok33 K)) ent32 (ok32 K))
theorem ok20 (K : Nat) : RowOK Try.prog 20 (row ad20 dq20 fun p => F20 K p.1 p.2.1 p.2.2) := row_ok fun x r h => has_of (cok20 K) Try.func20 ((ev20 (F31 K) (F33 K) (F32 K) K x.1 x.2.1 x.2.2).trans h)
/-! ganger/waits.of -/
noncomputable def tab29 (F16 : (List (El T45)) → Option (Int)) (F33 : (List (El T45)) → Option (List (El T70))) (F32 : (List (El T45)) → (List (El T70)) → (El T45) → Int → Option (Int)) : Tab := (((Tab.none.add 16 (row ad16 dq16 fun p => F16 p)).add 33 (row ad33 dq33 fun p => F33 p)).add 32 (row ad32 dq32 fun p => F32 p.1 p.2.1 p.2.2.1 p.2.2.2))
noncomputable def la29 : List (List Tidy) := [[.only [0, 1, 2, 7, 8, 16, 17, 18], .pro 7 33 30 (Ty.int IntKind.u32), .ids [12, 15, 17, 33], .top [1000000]]]
noncomputable def hd29_0 (a0 : List (El T45)) (a1 : Int) (a2 : Int) (ps18 : Int) (ph15 : List (El T70)) (ph33 : List (Int)) : St := { tm := slots (nat_lit 36) [(nat_lit 0, AV.row T45 a0), (nat_lit 1, AV.sc (Value.int IntKind.i64 a1)), (nat_lit 2, AV.sc (Value.int IntKind.i64 a2)), (nat_lit 7, AV.own (nat_lit 33)), (nat_lit 8, AV.own (nat_lit 15)), (nat_lit 16, AV.row T45 a0), (nat_lit 17, AV.sc (Value.int IntKind.i64 (↑a0.length : Int))), (nat_lit 18, AV.sc (Value.int IntKind.i64 ps18))], H := [(nat_lit 15, ABlk.arr (nat_lit 70) T70 ph15), (nat_lit 33, ABlk.arr (nat_lit 30) (Ty.int IntKind.u32) ph33)] }
noncomputable def b29_0 (F16 : (List (El T45)) → Option (Int)) (F33 : (List (El T45)) → Option (List (El T70))) (F32 : (List (El T45)) → (List (El T70)) → (El T45) → Int → Option (Int)) (K : Nat) (a0 : List (El T45)) (a1 : Int) (a2 : Int) (r0 : Int → (List (El T70)) → (List (Int)) → Option (List (El (.int .u32)))) (ps18 : Int) (ph15 : List (El T70)) (ph33 : List (Int)) : Option (List (El (.int .u32))) :=(if decide (ps18 < (↑a0.length : Int)) = true then (if decide ((0 : Int) ≤ ps18 ∧ ps18 < (↑a0.length : Int)) = true then 
    (Option.bind (F32 a0 ph15 (a0.getD ps18.toNat (zEl T45)) a1) fun x2 => (if (x2 == a2) = true then (if decide ((ph33.length + [(a0.getD ps18.toNat (zEl T45)).1].length) * Try.prog.types[(30 : Nat)].bytes ≤ (140737488355328 : Nat)) = true then r0 (IntKind.i64.wrap (ps18 + (1 : Int))) (ph15) (ph33 ++ [(a0.getD ps18.toNat (zEl T45)).1])
      else none)
     else r0 (IntKind.i64.wrap (ps18 + (1 : Int))) (ph15) (ph33)))
   else none)
  else some (ph33))
noncomputable def L29_0 (F16 : (List (El T45)) → Option (Int)) (F33 : (List (El T45)) → Option (List (El T70))) (F32 : (List (El T45)) → (List (El T70)) → (El T45) → Int → Option (Int)) (K : Nat) (a0 : List (El T45)) (a1 : Int) (a2 : Int) : Nat → Int → (List (El T70)) → (List (Int)) → Option (List (El (.int .u32)))
  | 0, _, _, _ => none
  | n + 1, ps18, ph15, ph33 => b29_0 F16 F33 F32 K a0 a1 a2 (L29_0 F16 F33 F32 K a0 a1 a2 n) ps18 ph15 ph33
noncomputable def t29 (F16 : (List (El T45)) → Option (Int)) (F33 : (List (El T45)) → Option (List (El T70))) (F32 : (List (El T45)) → (List (El T70)) → (El T45) → Int → Option (Int)) (K : Nat) (a0 : List (El T45)) (a1 : Int) (a2 : Int) (l0 : Nat → Int → (List (El T70)) → (List (Int)) → Option (List (El (.int .u32)))) : Option (List (El (.int .u32))) := 
 (Option.bind (F16 a0) fun x0 => (if (x0 != (0 : Int)) = true then some ([])
  else 
   (Option.bind (F33 a0) fun x1 => l0 K ((0 : Int)) (x1) ([]))))
noncomputable def G29 (F16 : (List (El T45)) → Option (Int)) (F33 : (List (El T45)) → Option (List (El T70))) (F32 : (List (El T45)) → (List (El T70)) → (El T45) → Int → Option (Int)) (K : Nat) (a0 : List (El T45)) (a1 : Int) (a2 : Int) : Option (List (El (.int .u32))) := t29 F16 F33 F32 K a0 a1 a2 (L29_0 F16 F33 F32 K a0 a1 a2)
theorem lp29_0 (F16 : (List (El T45)) → Option (Int)) (F33 : (List (El T45)) → Option (List (El T70))) (F32 : (List (El T45)) → (List (El T70)) → (El T45) → Int → Option (Int)) (K : Nat) (a0 : List (El T45)) (a1 : Int) (a2 : Int) : ∀ (n : Nat) (ps18 : Int) (ph15 : List (El T70)) (ph33 : List (Int)), loopN Try.prog (tab29 F16 F33 F32) 0 K Try.f29 la29 dq29.k 0 [] n (hd29_0 a0 a1 a2 ps18 ph15 ph33) = L29_0 F16 F33 F32 K a0 a1 a2 n ps18 ph15 ph33
  | 0, _, _, _ => by kernel_rfl
  | n + 1, ps18, ph15, ph33 => by
    have h : loopN Try.prog (tab29 F16 F33 F32) 0 K Try.f29 la29 dq29.k 0 [] (n + 1) (hd29_0 a0 a1 a2 ps18 ph15 ph33) = b29_0 F16 F33 F32 K a0 a1 a2 (fun q0 q1 q2 => loopN Try.prog (tab29 F16 F33 F32) 0 K Try.f29 la29 dq29.k 0 [] n (hd29_0 a0 a1 a2 q0 q1 q2)) ps18 ph15 ph33 := by kernel_rfl
    rw [h]
    simp only [lp29_0 F16 F33 F32 K a0 a1 a2 n]
    rfl
theorem ev29 (F16 : (List (El T45)) → Option (Int)) (F33 : (List (El T45)) → Option (List (El T70))) (F32 : (List (El T45)) → (List (El T70)) → (El T45) → Int → Option (Int)) (K : Nat) (a0 : List (El T45)) (a1 : Int) (a2 : Int) : evFun Try.prog (tab29 F16 F33 F32) 0 K Try.f29 la29 [.row T45 a0, I .i64 a1, I .i64 a2] [] dq29.k = G29 F16 F33 F32 K a0 a1 a2 := by
  have h : evFun Try.prog (tab29 F16 F33 F32) 0 K Try.f29 la29 [.row T45 a0, I .i64 a1, I .i64 a2] [] dq29.k = t29 F16 F33 F32 K a0 a1 a2 (fun k q0 q1 q2 => loopN Try.prog (tab29 F16 F33 F32) 0 K Try.f29 la29 dq29.k 0 [] k (hd29_0 a0 a1 a2 q0 q1 q2)) := by kernel_rfl
  rw [h]
  simp only [lp29_0 F16 F33 F32 K a0 a1 a2]
  rfl
noncomputable def F29 (K : Nat) (a0 : List (El T45)) (a1 : Int) (a2 : Int) : Option (List (El (.int .u32))) := G29 (F16 K) (F33 K) (F32 K) K a0 a1 a2
theorem cok29 (K : Nat) : CallOK Try.prog (tab29 (F16 K) (F33 K) (F32 K)) := (add_ok (add_ok (add_ok none_ok ent16 (ok16 K)) ent33 (ok33 K)) ent32 (ok32 K))
theorem ok29 (K : Nat) : RowOK Try.prog 29 (row ad29 dq29 fun p => F29 K p.1 p.2.1 p.2.2) := row_ok fun x r h => has_of (cok29 K) Try.func29 ((ev29 (F16 K) (F33 K) (F32 K) K x.1 x.2.1 x.2.2).trans h)
/-! ganger/waits.Ready -/
noncomputable def tab12 (F29 : (List (El T45)) → Int → Int → Option (List (El (.int .u32)))) : Tab := (Tab.none.add 29 (row ad29 dq29 fun p => F29 p.1 p.2.1 p.2.2))
noncomputable def t12 (F29 : (List (El T45)) → Int → Int → Option (List (El (.int .u32)))) (K : Nat) (a0 : List (El T45)) (a1 : Int) : Option (List (El (.int .u32))) := 
 (Option.bind (F29 a0 a1 (2 : Int)) fun x0 => some (x0))
noncomputable def G12 (F29 : (List (El T45)) → Int → Int → Option (List (El (.int .u32)))) (K : Nat) (a0 : List (El T45)) (a1 : Int) : Option (List (El (.int .u32))) := t12 F29 K a0 a1
theorem ev12 (F29 : (List (El T45)) → Int → Int → Option (List (El (.int .u32)))) (K : Nat) (a0 : List (El T45)) (a1 : Int) : evFun Try.prog (tab12 F29) 0 K Try.f12 [] [.row T45 a0, I .i64 a1] [] dq12.k = G12 F29 K a0 a1 := by
  kernel_rfl
noncomputable def F12 (K : Nat) (a0 : List (El T45)) (a1 : Int) : Option (List (El (.int .u32))) := G12 (F29 K) K a0 a1
theorem cok12 (K : Nat) : CallOK Try.prog (tab12 (F29 K)) := (add_ok none_ok ent29 (ok29 K))
theorem ok12 (K : Nat) : RowOK Try.prog 12 (row ad12 dq12 fun p => F12 K p.1 p.2) := row_ok fun x r h => has_of (cok12 K) Try.func12 ((ev12 (F29 K) K x.1 x.2).trans h)
/-! ganger/waits.Never -/
noncomputable def tab13 (F29 : (List (El T45)) → Int → Int → Option (List (El (.int .u32)))) : Tab := (Tab.none.add 29 (row ad29 dq29 fun p => F29 p.1 p.2.1 p.2.2))
noncomputable def t13 (F29 : (List (El T45)) → Int → Int → Option (List (El (.int .u32)))) (K : Nat) (a0 : List (El T45)) : Option (List (El (.int .u32))) := 
 (Option.bind (F29 a0 (0 : Int) (3 : Int)) fun x0 => some (x0))
noncomputable def G13 (F29 : (List (El T45)) → Int → Int → Option (List (El (.int .u32)))) (K : Nat) (a0 : List (El T45)) : Option (List (El (.int .u32))) := t13 F29 K a0
theorem ev13 (F29 : (List (El T45)) → Int → Int → Option (List (El (.int .u32)))) (K : Nat) (a0 : List (El T45)) : evFun Try.prog (tab13 F29) 0 K Try.f13 [] [.row T45 a0] [] dq13.k = G13 F29 K a0 := by
  kernel_rfl
noncomputable def F13 (K : Nat) (a0 : List (El T45)) : Option (List (El (.int .u32))) := G13 (F29 K) K a0
theorem cok13 (K : Nat) : CallOK Try.prog (tab13 (F29 K)) := (add_ok none_ok ent29 (ok29 K))
theorem ok13 (K : Nat) : RowOK Try.prog 13 (row ad13 dq13 fun p => F13 K p) := row_ok fun x r h => has_of (cok13 K) Try.func13 ((ev13 (F29 K) K x).trans h)
/-! ganger/gangerref14.List -/
noncomputable def tab15 (F21 : (List (El T45)) → Option (Int)) (F28 : (List (El T45)) → Int → Int → Option (Int)) : Tab := ((Tab.none.add 21 (row ad21 dq21 fun p => F21 p)).add 28 (row ad28 dq28 fun p => F28 p.1 p.2.1 p.2.2))
noncomputable def la15 : List (List Tidy) := [[.only [0, 1, 2, 7, 8, 9], .pro 7 37 30 (Ty.int IntKind.u32), .ids [12, 37], .top [1000000]]]
noncomputable def hd15_0 (a0 : List (El T45)) (a1 : Int) (a2 : Int) (ps8 : Int) (ps9 : Int) (ph37 : List (Int)) : St := { tm := slots (nat_lit 39) [(nat_lit 0, AV.row T45 a0), (nat_lit 1, AV.sc (Value.int IntKind.i64 a1)), (nat_lit 2, AV.sc (Value.int IntKind.i64 a2)), (nat_lit 7, AV.own (nat_lit 37)), (nat_lit 8, AV.sc (Value.int IntKind.i64 ps8)), (nat_lit 9, AV.sc (Value.int IntKind.i64 ps9))], H := [(nat_lit 37, ABlk.arr (nat_lit 30) (Ty.int IntKind.u32) ph37)] }
noncomputable def b15_0 (F21 : (List (El T45)) → Option (Int)) (F28 : (List (El T45)) → Int → Int → Option (Int)) (K : Nat) (a0 : List (El T45)) (a1 : Int) (a2 : Int) (r0 : Int → Int → (List (Int)) → Option (List (El (.int .u32)))) (ps8 : Int) (ps9 : Int) (ph37 : List (Int)) : Option (List (El (.int .u32))) :=(if decide (ps9 < (↑a0.length : Int)) = true then (if (ps8 == (0 : Int)) = true then 
    (Option.bind (F28 a0 (IntKind.u32.wrap (IntKind.i64.wrap (ps9 + (1 : Int)))) a1) fun x1 => (if (x1 == a2) = true then (if decide ((ph37.length + [IntKind.u32.wrap (IntKind.i64.wrap (ps9 + (1 : Int)))].length) * Try.prog.types[(30 : Nat)].bytes ≤ (140737488355328 : Nat)) = true then r0 (ps8) (IntKind.i64.wrap (ps9 + (1 : Int))) (ph37 ++ [IntKind.u32.wrap (IntKind.i64.wrap (ps9 + (1 : Int)))])
      else none)
     else r0 (ps8) (IntKind.i64.wrap (ps9 + (1 : Int))) (ph37)))
   else some (ph37))
  else some (ph37))
noncomputable def L15_0 (F21 : (List (El T45)) → Option (Int)) (F28 : (List (El T45)) → Int → Int → Option (Int)) (K : Nat) (a0 : List (El T45)) (a1 : Int) (a2 : Int) : Nat → Int → Int → (List (Int)) → Option (List (El (.int .u32)))
  | 0, _, _, _ => none
  | n + 1, ps8, ps9, ph37 => b15_0 F21 F28 K a0 a1 a2 (L15_0 F21 F28 K a0 a1 a2 n) ps8 ps9 ph37
noncomputable def t15 (F21 : (List (El T45)) → Option (Int)) (F28 : (List (El T45)) → Int → Int → Option (Int)) (K : Nat) (a0 : List (El T45)) (a1 : Int) (a2 : Int) (l0 : Nat → Int → Int → (List (Int)) → Option (List (El (.int .u32)))) : Option (List (El (.int .u32))) := 
 (Option.bind (F21 a0) fun x0 => l0 K (x0) ((0 : Int)) ([]))
noncomputable def G15 (F21 : (List (El T45)) → Option (Int)) (F28 : (List (El T45)) → Int → Int → Option (Int)) (K : Nat) (a0 : List (El T45)) (a1 : Int) (a2 : Int) : Option (List (El (.int .u32))) := t15 F21 F28 K a0 a1 a2 (L15_0 F21 F28 K a0 a1 a2)
theorem lp15_0 (F21 : (List (El T45)) → Option (Int)) (F28 : (List (El T45)) → Int → Int → Option (Int)) (K : Nat) (a0 : List (El T45)) (a1 : Int) (a2 : Int) : ∀ (n : Nat) (ps8 : Int) (ps9 : Int) (ph37 : List (Int)), loopN Try.prog (tab15 F21 F28) 0 K Try.f15 la15 dq15.k 0 [] n (hd15_0 a0 a1 a2 ps8 ps9 ph37) = L15_0 F21 F28 K a0 a1 a2 n ps8 ps9 ph37
  | 0, _, _, _ => by kernel_rfl
  | n + 1, ps8, ps9, ph37 => by
    have h : loopN Try.prog (tab15 F21 F28) 0 K Try.f15 la15 dq15.k 0 [] (n + 1) (hd15_0 a0 a1 a2 ps8 ps9 ph37) = b15_0 F21 F28 K a0 a1 a2 (fun q0 q1 q2 => loopN Try.prog (tab15 F21 F28) 0 K Try.f15 la15 dq15.k 0 [] n (hd15_0 a0 a1 a2 q0 q1 q2)) ps8 ps9 ph37 := by kernel_rfl
    rw [h]
    simp only [lp15_0 F21 F28 K a0 a1 a2 n]
    rfl
theorem ev15 (F21 : (List (El T45)) → Option (Int)) (F28 : (List (El T45)) → Int → Int → Option (Int)) (K : Nat) (a0 : List (El T45)) (a1 : Int) (a2 : Int) : evFun Try.prog (tab15 F21 F28) 0 K Try.f15 la15 [.row T45 a0, I .i64 a1, I .i64 a2] [] dq15.k = G15 F21 F28 K a0 a1 a2 := by
  have h : evFun Try.prog (tab15 F21 F28) 0 K Try.f15 la15 [.row T45 a0, I .i64 a1, I .i64 a2] [] dq15.k = t15 F21 F28 K a0 a1 a2 (fun k q0 q1 q2 => loopN Try.prog (tab15 F21 F28) 0 K Try.f15 la15 dq15.k 0 [] k (hd15_0 a0 a1 a2 q0 q1 q2)) := by kernel_rfl
  rw [h]
  simp only [lp15_0 F21 F28 K a0 a1 a2]
  rfl
noncomputable def F15 (K : Nat) (a0 : List (El T45)) (a1 : Int) (a2 : Int) : Option (List (El (.int .u32))) := G15 (F21 K) (F28 K) K a0 a1 a2
theorem cok15 (K : Nat) : CallOK Try.prog (tab15 (F21 K) (F28 K)) := (add_ok (add_ok none_ok ent21 (ok21 K)) ent28 (ok28 K))
theorem ok15 (K : Nat) : RowOK Try.prog 15 (row ad15 dq15 fun p => F15 K p.1 p.2.1 p.2.2) := row_ok fun x r h => has_of (cok15 K) Try.func15 ((ev15 (F21 K) (F28 K) K x.1 x.2.1 x.2.2).trans h)
/-! ganger/waits.Alone -/
noncomputable def tab24 (F31 : (List (El T45)) → Int → Option ((El T45) × Bool)) (F34 : (List (El T45)) → (El T45) → Option (Bool)) : Tab := ((Tab.none.add 31 (row ad31 dq31 fun p => F31 p.1 p.2)).add 34 (row ad34 dq34 fun p => F34 p.1 p.2))
noncomputable def t24 (F31 : (List (El T45)) → Int → Option ((El T45) × Bool)) (F34 : (List (El T45)) → (El T45) → Option (Bool)) (K : Nat) (a0 : List (El T45)) (a1 : Int) : Option (Bool) := 
 (Option.bind (F31 a0 a1) fun x0 => (if x0.2 = true then 
   (Option.bind (F34 a0 x0.1) fun x1 => some (x1))
  else some (false)))
noncomputable def G24 (F31 : (List (El T45)) → Int → Option ((El T45) × Bool)) (F34 : (List (El T45)) → (El T45) → Option (Bool)) (K : Nat) (a0 : List (El T45)) (a1 : Int) : Option (Bool) := t24 F31 F34 K a0 a1
theorem ev24 (F31 : (List (El T45)) → Int → Option ((El T45) × Bool)) (F34 : (List (El T45)) → (El T45) → Option (Bool)) (K : Nat) (a0 : List (El T45)) (a1 : Int) : evFun Try.prog (tab24 F31 F34) 0 K Try.f24 [] [.row T45 a0, I .u32 a1] [] dq24.k = G24 F31 F34 K a0 a1 := by
  kernel_rfl
noncomputable def F24 (K : Nat) (a0 : List (El T45)) (a1 : Int) : Option (Bool) := G24 (F31 K) (F34 K) K a0 a1
theorem cok24 (K : Nat) : CallOK Try.prog (tab24 (F31 K) (F34 K)) := (add_ok (add_ok none_ok ent31 (ok31 K)) ent34 (ok34 K))
theorem ok24 (K : Nat) : RowOK Try.prog 24 (row ad24 dq24 fun p => F24 K p.1 p.2) := row_ok fun x r h => has_of (cok24 K) Try.func24 ((ev24 (F31 K) (F34 K) K x.1 x.2).trans h)
end Go.Proofs.YthebmlpohkfhbaaE
