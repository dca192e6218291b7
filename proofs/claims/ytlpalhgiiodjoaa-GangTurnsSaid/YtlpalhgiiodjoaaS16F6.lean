import Derived.Test.YtlpalhgiiodjoaaS16W40
set_option linter.all false
namespace Go.Proofs.YtlpalhgiiodjoaaE
open Go Go.Proofs
set_option maxRecDepth 100000
set_option linter.unusedVariables false
variable {D : Prop}
/-! (*ganger/gang.Matrix).Rows -/
noncomputable def tab17 : Tab := Tab.none
noncomputable def t17 (K : Nat) (a0 : El T62) : Option (Int) := (if ((↑(List.length a0.2.1) : Int) == (0 : Int)) = true then some ((0 : Int))
 else (if decide ((0 : Int) ≤ IntKind.i64.wrap ((↑(List.length a0.2.1) : Int) - (1 : Int)) ∧ IntKind.i64.wrap ((↑(List.length a0.2.1) : Int) - (1 : Int)) < (↑(List.length a0.2.1) : Int)) = true then some (IntKind.i64.wrap ((List.getD a0.2.1 (IntKind.i64.wrap ((↑(List.length a0.2.1) : Int) - (1 : Int))).toNat (zEl T34)).2.1 + (1 : Int)))
  else none))
noncomputable def G17 (K : Nat) (a0 : El T62) : Option (Int) := t17 K a0
theorem ev17 (K : Nat) (a0 : El T62) : evFun Try.prog (tab17) 0 K Try.f17 [] [.eptr T62 a0 0] [] dq17.k = G17 K a0 := by
  kernel_rfl
noncomputable def F17 (K : Nat) (a0 : El T62) : Option (Int) := G17 K a0
theorem cok17 (K : Nat) : CallOK D Try.prog (tab17) := none_ok
theorem ok17 (K : Nat) : RowOK D Try.prog 17 (row ad17 dq17 fun p => F17 K p) := row_ok fun x r h => has_of (cok17 K) Try.func17 ((ev17 K x).trans h)
/-! (*ganger/gang.Matrix).Remove -/
noncomputable def tab22 (F39 : (El T62) → Int → Option (Int)) (F40 : (Int × Int) → List (El T34) → Option (List (El T34))) (F17 : (El T62) → Option (Int)) : Tab := (((Tab.none.add 39 (row ad39 dq39 fun p => F39 p.1 p.2)).addW 40 (rowW T34 ad40 F40 true)).add 17 (row ad17 dq17 fun p => F17 p))
noncomputable def t22 (F39 : (El T62) → Int → Option (Int)) (F40 : (Int × Int) → List (El T34) → Option (List (El T34))) (F17 : (El T62) → Option (Int)) (K : Nat) (a0 : Int) (o0 : Int × (List (El T34) × Int)) : Option (Int × (Int × (List (El T34) × Int))) := 
 (Option.bind (F39 o0 a0) fun x0 => (if decide (x0 < (0 : Int)) = true then some (((4 : Int), o0))
  else 
   (Option.bind (F40 (x0, IntKind.i64.wrap (x0 + (1 : Int))) o0.2.1) fun x1 => 
    (Option.bind (F17 (o0.1, x1, o0.2.2)) fun x2 => (if decide (o0.2.2 ≥ x2) = true then some (((0 : Int), o0.1, x1, (0 : Int)))
     else some (((0 : Int), o0.1, x1, o0.2.2)))))))
noncomputable def G22 (F39 : (El T62) → Int → Option (Int)) (F40 : (Int × Int) → List (El T34) → Option (List (El T34))) (F17 : (El T62) → Option (Int)) (K : Nat) (a0 : Int) (o0 : Int × (List (El T34) × Int)) : Option (Int × (Int × (List (El T34) × Int))) := t22 F39 F40 F17 K a0 o0
theorem ev22 (F39 : (El T62) → Int → Option (Int)) (F40 : (Int × Int) → List (El T34) → Option (List (El T34))) (F17 : (El T62) → Option (Int)) (K : Nat) (a0 : Int) (o0 : Int × (List (El T34) × Int)) : evFun Try.prog (tab22 F39 F40 F17) 0 K Try.f22 [] [.ptr 2000000 0, I .u32 a0] (hpB ob22 o0) gq22.k = G22 F39 F40 F17 K a0 o0 := by
  kernel_rfl
noncomputable def F22 (K : Nat) (a0 : Int) (o0 : Int × (List (El T34) × Int)) : Option (Int × (Int × (List (El T34) × Int))) := G22 (F39 K) (F40 K) (F17 K) K a0 o0
theorem cok22 (K : Nat) : CallOK D Try.prog (tab22 (F39 K) (F40 K) (F17 K)) := (add_ok (addW_ok (add_ok none_ok ent39 (ok39 K)) ent40 (ok40 K)) ent17 (ok17 K))
theorem ok22 (K : Nat) : RowG D Try.prog 22 (rowG (gad ag22 ob22) gq22 fun p => F22 K p.1.1 p.2) := rowG_ok fun x r h => ghas_of (cok22 K) Try.func22 ((ev22 (F39 K) (F40 K) (F17 K) K x.1.1 x.2).trans h)
/-! (*ganger/gang.Matrix).Turn -/
noncomputable def tab18 (F17 : (El T62) → Option (Int)) : Tab := (Tab.none.add 17 (row ad17 dq17 fun p => F17 p))
noncomputable def t18 (F17 : (El T62) → Option (Int)) (K : Nat) (o0 : Int × (List (El T34) × Int)) : Option (Unit × (Int × (List (El T34) × Int))) := 
 (Option.bind (F17 (o0.1, o0.2.1, IntKind.i64.wrap (o0.2.2 + (1 : Int)))) fun x0 => (if decide (IntKind.i64.wrap (o0.2.2 + (1 : Int)) ≥ x0) = true then some (((), o0.1, o0.2.1, (0 : Int)))
  else some (((), o0.1, o0.2.1, IntKind.i64.wrap (o0.2.2 + (1 : Int))))))
noncomputable def G18 (F17 : (El T62) → Option (Int)) (K : Nat) (o0 : Int × (List (El T34) × Int)) : Option (Unit × (Int × (List (El T34) × Int))) := t18 F17 K o0
theorem ev18 (F17 : (El T62) → Option (Int)) (K : Nat) (o0 : Int × (List (El T34) × Int)) : evFun Try.prog (tab18 F17) 0 K Try.f18 [] [.ptr 2000000 0] (hpB ob18 o0) gq18.k = G18 F17 K o0 := by
  kernel_rfl
noncomputable def F18 (K : Nat) (o0 : Int × (List (El T34) × Int)) : Option (Unit × (Int × (List (El T34) × Int))) := G18 (F17 K) K o0
theorem cok18 (K : Nat) : CallOK D Try.prog (tab18 (F17 K)) := (add_ok none_ok ent17 (ok17 K))
theorem ok18 (K : Nat) : RowG D Try.prog 18 (rowG (gad ag18 ob18) gq18 fun p => F18 K p.2) := rowG_ok fun x r h => ghas_of (cok18 K) Try.func18 ((ev18 (F17 K) K x.2).trans h)
/-! (*ganger/gang.Matrix).Unify -/
noncomputable def tab20 (F37 : (El T62) → Int → Option (El T65)) (F32 : (El T32) → Option (El T65)) (F33 : (El T65) → (El T65) → Option (Bool)) (F38 : (Int × (List (El T34) × Int)) → Option (Unit × (Int × (List (El T34) × Int)))) : Tab := ((((Tab.none.add 37 (row ad37 dq37 fun p => F37 p.1 p.2)).add 32 (row ad32 dq32 fun p => F32 p)).add 33 (row ad33 dq33 fun p => F33 p.1 p.2)).addG 38 (rowG (gad ag38 ob38) gq38 fun p => F38 p.2))
noncomputable def la20 : List (List Tidy) := [[.only [0, 3, 17, 18, 19], .ids [11, 18, 50, 55], .top [1000000]], [.only [0, 3, 4, 5, 17, 18, 19, 25, 26], .ids [5, 11, 18, 50, 55], .top [1000001]], [.only [0, 3, 7, 8, 9, 54, 55, 56], .ids [5, 18, 31, 34, 35, 50, 55], .top [1000002]]]
noncomputable def hd20_0 (o0 : Int × (List (El T34) × Int)) (ps3 : Int) (ps19 : Int) (ph400000 : List (El T34)) : St := { tm := slots (nat_lit 91) [(nat_lit 0, AV.ptr (nat_lit 2000000) (nat_lit 0)), (nat_lit 3, AV.sc (Value.int IntKind.i64 ps3)), (nat_lit 17, AV.own (nat_lit 400000)), (nat_lit 18, AV.sc (Value.int IntKind.i64 (↑o0.2.1.length : Int))), (nat_lit 19, AV.sc (Value.int IntKind.i64 ps19))], H := [(nat_lit 400000, ABlk.arr (nat_lit 34) T34 ph400000), (nat_lit 2000000, ABlk.box (nat_lit 62) [AV.sc (Value.int IntKind.i64 o0.1), AV.own (nat_lit 400000), AV.sc (Value.int IntKind.i64 o0.2.2)])] }
noncomputable def hd20_1 (o0 : Int × (List (El T34) × Int)) (ps3 : Int) (ps4 : Int) (ps19 : Int) (ps25 : Int) (ps26 : Int) (ph5 : El T34) (ph400000 : List (El T34)) : St := { tm := slots (nat_lit 91) [(nat_lit 0, AV.ptr (nat_lit 2000000) (nat_lit 0)), (nat_lit 3, AV.sc (Value.int IntKind.i64 ps3)), (nat_lit 4, AV.sc (Value.int IntKind.i64 ps4)), (nat_lit 5, AV.ptr (nat_lit 5) (nat_lit 0)), (nat_lit 17, AV.own (nat_lit 400000)), (nat_lit 18, AV.sc (Value.int IntKind.i64 (↑o0.2.1.length : Int))), (nat_lit 19, AV.sc (Value.int IntKind.i64 ps19)), (nat_lit 25, AV.sc (Value.int IntKind.i64 ps25)), (nat_lit 26, AV.sc (Value.int IntKind.i64 ps26))], H := [(nat_lit 5, ABlk.box (nat_lit 34) (cellsOf T34 ph5)), (nat_lit 400000, ABlk.arr (nat_lit 34) T34 ph400000), (nat_lit 2000000, ABlk.box (nat_lit 62) [AV.sc (Value.int IntKind.i64 o0.1), AV.own (nat_lit 400000), AV.sc (Value.int IntKind.i64 o0.2.2)])] }
noncomputable def hd20_2 (o0 : Int × (List (El T34) × Int)) (ps3 : Int) (ps7 : Int) (ps8 : Int) (ps9 : Int) (ps55 : Int) (ps56 : Int) (ph400000 : List (El T34)) (ph2000000_0 : Int) (ph2000000_2 : Int) : St := { tm := slots (nat_lit 91) [(nat_lit 0, AV.ptr (nat_lit 2000000) (nat_lit 0)), (nat_lit 3, AV.sc (Value.int IntKind.i64 ps3)), (nat_lit 7, AV.sc (Value.int IntKind.i64 ps7)), (nat_lit 8, AV.sc (Value.int IntKind.i64 ps8)), (nat_lit 9, AV.sc (Value.int IntKind.i64 ps9)), (nat_lit 54, AV.own (nat_lit 400000)), (nat_lit 55, AV.sc (Value.int IntKind.i64 ps55)), (nat_lit 56, AV.sc (Value.int IntKind.i64 ps56))], H := [(nat_lit 400000, ABlk.arr (nat_lit 34) T34 ph400000), (nat_lit 2000000, ABlk.box (nat_lit 62) [AV.sc (Value.int IntKind.i64 ph2000000_0), AV.own (nat_lit 400000), AV.sc (Value.int IntKind.i64 ph2000000_2)])] }
noncomputable def b20_2 (F37 : (El T62) → Int → Option (El T65)) (F32 : (El T32) → Option (El T65)) (F33 : (El T65) → (El T65) → Option (Bool)) (F38 : (Int × (List (El T34) × Int)) → Option (Unit × (Int × (List (El T34) × Int)))) (K : Nat) (o0 : Int × (List (El T34) × Int)) (r2 : Int → Int → Int → Int → Int → Int → (List (El T34)) → Int → Int → Option (Int × (Int × (List (El T34) × Int)))) (ps3 : Int) (ps7 : Int) (ps8 : Int) (ps9 : Int) (ps55 : Int) (ps56 : Int) (ph400000 : List (El T34)) (ph2000000_0 : Int) (ph2000000_2 : Int) : Option (Int × (Int × (List (El T34) × Int))) :=(if decide (ps56 < ps55) = true then (if decide ((0 : Int) ≤ ps56 ∧ ps56 < (↑ph400000.length : Int)) = true then (if ((ph400000.getD ps56.toNat (zEl T34)).2.1 != ps7) = true then (if ((ph400000.getD ps56.toNat (zEl T34)).2.1 == ph2000000_2) = true then (if decide ((0 : Int) ≤ ps56 ∧ ps56 < (↑ph400000.length : Int)) = true then r2 (ps3) ((ph400000.getD ps56.toNat (zEl T34)).2.1) (IntKind.i64.wrap (ps8 + (1 : Int))) (IntKind.i64.wrap (ps8 + (1 : Int))) (ps55) (IntKind.i64.wrap (ps56 + (1 : Int))) (ph400000.set ps56.toNat ((ph400000.getD ps56.toNat (zEl T34)).1, IntKind.i64.wrap (ps8 + (1 : Int)), (ph400000.getD ps56.toNat (zEl T34)).2.2)) (ph2000000_0) (ph2000000_2)
      else none)
     else (if decide ((0 : Int) ≤ ps56 ∧ ps56 < (↑ph400000.length : Int)) = true then r2 (ps3) ((ph400000.getD ps56.toNat (zEl T34)).2.1) (IntKind.i64.wrap (ps8 + (1 : Int))) (ps9) (ps55) (IntKind.i64.wrap (ps56 + (1 : Int))) (ph400000.set ps56.toNat ((ph400000.getD ps56.toNat (zEl T34)).1, IntKind.i64.wrap (ps8 + (1 : Int)), (ph400000.getD ps56.toNat (zEl T34)).2.2)) (ph2000000_0) (ph2000000_2)
      else none))
    else (if ((ph400000.getD ps56.toNat (zEl T34)).2.1 == ph2000000_2) = true then (if decide ((0 : Int) ≤ ps56 ∧ ps56 < (↑ph400000.length : Int)) = true then r2 (ps3) (ps7) (ps8) (ps8) (ps55) (IntKind.i64.wrap (ps56 + (1 : Int))) (ph400000.set ps56.toNat ((ph400000.getD ps56.toNat (zEl T34)).1, ps8, (ph400000.getD ps56.toNat (zEl T34)).2.2)) (ph2000000_0) (ph2000000_2)
      else none)
     else (if decide ((0 : Int) ≤ ps56 ∧ ps56 < (↑ph400000.length : Int)) = true then r2 (ps3) (ps7) (ps8) (ps9) (ps55) (IntKind.i64.wrap (ps56 + (1 : Int))) (ph400000.set ps56.toNat ((ph400000.getD ps56.toNat (zEl T34)).1, ps8, (ph400000.getD ps56.toNat (zEl T34)).2.2)) (ph2000000_0) (ph2000000_2)
      else none)))
   else none)
  else some ((ps3, ph2000000_0, ph400000, ps9)))
noncomputable def L20_2 (F37 : (El T62) → Int → Option (El T65)) (F32 : (El T32) → Option (El T65)) (F33 : (El T65) → (El T65) → Option (Bool)) (F38 : (Int × (List (El T34) × Int)) → Option (Unit × (Int × (List (El T34) × Int)))) (K : Nat) (o0 : Int × (List (El T34) × Int)) : Nat → Int → Int → Int → Int → Int → Int → (List (El T34)) → Int → Int → Option (Int × (Int × (List (El T34) × Int)))
  | 0, _, _, _, _, _, _, _, _, _ => none
  | n + 1, ps3, ps7, ps8, ps9, ps55, ps56, ph400000, ph2000000_0, ph2000000_2 => b20_2 F37 F32 F33 F38 K o0 (L20_2 F37 F32 F33 F38 K o0 n) ps3 ps7 ps8 ps9 ps55 ps56 ph400000 ph2000000_0 ph2000000_2
noncomputable def b20_1 (F37 : (El T62) → Int → Option (El T65)) (F32 : (El T32) → Option (El T65)) (F33 : (El T65) → (El T65) → Option (Bool)) (F38 : (Int × (List (El T34) × Int)) → Option (Unit × (Int × (List (El T34) × Int)))) (K : Nat) (o0 : Int × (List (El T34) × Int)) (r0 : Int → Int → (List (El T34)) → Option (Int × (Int × (List (El T34) × Int)))) (r1 : Int → Int → Int → Int → Int → (El T34) → (List (El T34)) → Option (Int × (Int × (List (El T34) × Int)))) (ps3 : Int) (ps4 : Int) (ps19 : Int) (ps25 : Int) (ps26 : Int) (ph5 : El T34) (ph400000 : List (El T34)) : Option (Int × (Int × (List (El T34) × Int))) :=(if decide (ps26 < ps25) = true then 
   (Option.bind (F37 (o0.1, ph400000, o0.2.2) ps26) fun x1 => 
    (Option.bind (F32 ph5.2.2) fun x2 => 
     (Option.bind (F33 x1 x2) fun x3 => (if (!x3) = true then (if decide ((0 : Int) ≤ ps4 ∧ ps4 < (↑ph400000.length : Int)) = true then r0 (IntKind.i64.wrap (ps3 + (1 : Int))) (IntKind.i64.wrap (ps19 + (1 : Int))) (ph400000.set ps4.toNat ((ph400000.getD ps4.toNat (zEl T34)).1, ps26, (ph400000.getD ps4.toNat (zEl T34)).2.2))
       else none)
      else r1 (ps3) (ps4) (ps19) (ps25) (IntKind.i64.wrap (ps26 + (1 : Int))) (ph5) (ph400000)))))
  else r0 (ps3) (IntKind.i64.wrap (ps19 + (1 : Int))) (ph400000))
noncomputable def L20_1 (F37 : (El T62) → Int → Option (El T65)) (F32 : (El T32) → Option (El T65)) (F33 : (El T65) → (El T65) → Option (Bool)) (F38 : (Int × (List (El T34) × Int)) → Option (Unit × (Int × (List (El T34) × Int)))) (K : Nat) (o0 : Int × (List (El T34) × Int)) (r0 : Int → Int → (List (El T34)) → Option (Int × (Int × (List (El T34) × Int)))) : Nat → Int → Int → Int → Int → Int → (El T34) → (List (El T34)) → Option (Int × (Int × (List (El T34) × Int)))
  | 0, _, _, _, _, _, _, _ => none
  | n + 1, ps3, ps4, ps19, ps25, ps26, ph5, ph400000 => b20_1 F37 F32 F33 F38 K o0 r0 (L20_1 F37 F32 F33 F38 K o0 r0 n) ps3 ps4 ps19 ps25 ps26 ph5 ph400000
noncomputable def b20_0 (F37 : (El T62) → Int → Option (El T65)) (F32 : (El T32) → Option (El T65)) (F33 : (El T65) → (El T65) → Option (Bool)) (F38 : (Int × (List (El T34) × Int)) → Option (Unit × (Int × (List (El T34) × Int)))) (K : Nat) (o0 : Int × (List (El T34) × Int)) (r0 : Int → Int → (List (El T34)) → Option (Int × (Int × (List (El T34) × Int)))) (l1 : Nat → Int → Int → Int → Int → Int → (El T34) → (List (El T34)) → Option (Int × (Int × (List (El T34) × Int)))) (l2 : Nat → Int → Int → Int → Int → Int → Int → (List (El T34)) → Int → Int → Option (Int × (Int × (List (El T34) × Int)))) (ps3 : Int) (ps19 : Int) (ph400000 : List (El T34)) : Option (Int × (Int × (List (El T34) × Int))) :=(if decide (ps19 < (↑o0.2.1.length : Int)) = true then (if decide ((0 : Int) ≤ ps19 ∧ ps19 < (↑ph400000.length : Int)) = true then l1 K (ps3) (ps19) (ps19) ((ph400000.getD ps19.toNat (zEl T34)).2.1) ((0 : Int)) (ph400000.getD ps19.toNat (zEl T34)) (ph400000)
   else none)
  else 
   (Option.bind (F38 (o0.1, ph400000, o0.2.2)) fun x0 => l2 K (ps3) ((-1 : Int)) ((-1 : Int)) ((0 : Int)) ((↑x0.2.2.1.length : Int)) ((0 : Int)) (x0.2.2.1) (x0.2.1) (x0.2.2.2)))
noncomputable def L20_0 (F37 : (El T62) → Int → Option (El T65)) (F32 : (El T32) → Option (El T65)) (F33 : (El T65) → (El T65) → Option (Bool)) (F38 : (Int × (List (El T34) × Int)) → Option (Unit × (Int × (List (El T34) × Int)))) (K : Nat) (o0 : Int × (List (El T34) × Int)) : Nat → Int → Int → (List (El T34)) → Option (Int × (Int × (List (El T34) × Int)))
  | 0, _, _, _ => none
  | n + 1, ps3, ps19, ph400000 => b20_0 F37 F32 F33 F38 K o0 (L20_0 F37 F32 F33 F38 K o0 n) (L20_1 F37 F32 F33 F38 K o0 (L20_0 F37 F32 F33 F38 K o0 n)) (L20_2 F37 F32 F33 F38 K o0) ps3 ps19 ph400000
noncomputable def t20 (F37 : (El T62) → Int → Option (El T65)) (F32 : (El T32) → Option (El T65)) (F33 : (El T65) → (El T65) → Option (Bool)) (F38 : (Int × (List (El T34) × Int)) → Option (Unit × (Int × (List (El T34) × Int)))) (K : Nat) (o0 : Int × (List (El T34) × Int)) (l0 : Nat → Int → Int → (List (El T34)) → Option (Int × (Int × (List (El T34) × Int)))) : Option (Int × (Int × (List (El T34) × Int))) := l0 K ((0 : Int)) ((0 : Int)) (o0.2.1)
noncomputable def G20 (F37 : (El T62) → Int → Option (El T65)) (F32 : (El T32) → Option (El T65)) (F33 : (El T65) → (El T65) → Option (Bool)) (F38 : (Int × (List (El T34) × Int)) → Option (Unit × (Int × (List (El T34) × Int)))) (K : Nat) (o0 : Int × (List (El T34) × Int)) : Option (Int × (Int × (List (El T34) × Int))) := t20 F37 F32 F33 F38 K o0 (L20_0 F37 F32 F33 F38 K o0)
theorem lp20_2 (F37 : (El T62) → Int → Option (El T65)) (F32 : (El T32) → Option (El T65)) (F33 : (El T65) → (El T65) → Option (Bool)) (F38 : (Int × (List (El T34) × Int)) → Option (Unit × (Int × (List (El T34) × Int)))) (K : Nat) (o0 : Int × (List (El T34) × Int)) : ∀ (n : Nat) (ps3 : Int) (ps7 : Int) (ps8 : Int) (ps9 : Int) (ps55 : Int) (ps56 : Int) (ph400000 : List (El T34)) (ph2000000_0 : Int) (ph2000000_2 : Int), loopN Try.prog (tab20 F37 F32 F33 F38) 0 K Try.f20 la20 gq20.k 2 [] n (hd20_2 o0 ps3 ps7 ps8 ps9 ps55 ps56 ph400000 ph2000000_0 ph2000000_2) = L20_2 F37 F32 F33 F38 K o0 n ps3 ps7 ps8 ps9 ps55 ps56 ph400000 ph2000000_0 ph2000000_2
  | 0, _, _, _, _, _, _, _, _, _ => by kernel_rfl
  | n + 1, ps3, ps7, ps8, ps9, ps55, ps56, ph400000, ph2000000_0, ph2000000_2 => by
    have h : loopN Try.prog (tab20 F37 F32 F33 F38) 0 K Try.f20 la20 gq20.k 2 [] (n + 1) (hd20_2 o0 ps3 ps7 ps8 ps9 ps55 ps56 ph400000 ph2000000_0 ph2000000_2) = b20_2 F37 F32 F33 F38 K o0 (fun q0 q1 q2 q3 q4 q5 q6 q7 q8 => loopN Try.prog (tab20 F37 F32 F33 F38) 0 K Try.f20 la20 gq20.k 2 [] n (hd20_2 o0 q0 q1 q2 q3 q4 q5 q6 q7 q8)) ps3 ps7 ps8 ps9 ps55 ps56 ph400000 ph2000000_0 ph2000000_2 := by kernel_rfl
    rw [h]
    simp only [lp20_2 F37 F32 F33 F38 K o0 n]
    rfl
theorem lp20_1 (F37 : (El T62) → Int → Option (El T65)) (F32 : (El T32) → Option (El T65)) (F33 : (El T65) → (El T65) → Option (Bool)) (F38 : (Int × (List (El T34) × Int)) → Option (Unit × (Int × (List (El T34) × Int)))) (K : Nat) (o0 : Int × (List (El T34) × Int)) : ∀ (m0 : Nat) (n : Nat) (ps3 : Int) (ps4 : Int) (ps19 : Int) (ps25 : Int) (ps26 : Int) (ph5 : El T34) (ph400000 : List (El T34)), loopN Try.prog (tab20 F37 F32 F33 F38) 0 K Try.f20 la20 gq20.k 1 [m0] n (hd20_1 o0 ps3 ps4 ps19 ps25 ps26 ph5 ph400000) = L20_1 F37 F32 F33 F38 K o0 (fun q0 q1 q2 => loopN Try.prog (tab20 F37 F32 F33 F38) 0 K Try.f20 la20 gq20.k 0 [] m0 (hd20_0 o0 q0 q1 q2)) n ps3 ps4 ps19 ps25 ps26 ph5 ph400000
  | m0, 0, _, _, _, _, _, _, _ => by kernel_rfl
  | m0, n + 1, ps3, ps4, ps19, ps25, ps26, ph5, ph400000 => by
    have h : loopN Try.prog (tab20 F37 F32 F33 F38) 0 K Try.f20 la20 gq20.k 1 [m0] (n + 1) (hd20_1 o0 ps3 ps4 ps19 ps25 ps26 ph5 ph400000) = b20_1 F37 F32 F33 F38 K o0 (fun q0 q1 q2 => loopN Try.prog (tab20 F37 F32 F33 F38) 0 K Try.f20 la20 gq20.k 0 [] m0 (hd20_0 o0 q0 q1 q2)) (fun q0 q1 q2 q3 q4 q5 q6 => loopN Try.prog (tab20 F37 F32 F33 F38) 0 K Try.f20 la20 gq20.k 1 [m0] n (hd20_1 o0 q0 q1 q2 q3 q4 q5 q6)) ps3 ps4 ps19 ps25 ps26 ph5 ph400000 := by kernel_rfl
    rw [h]
    simp only [lp20_1 F37 F32 F33 F38 K o0 m0 n]
    rfl
theorem lp20_0 (F37 : (El T62) → Int → Option (El T65)) (F32 : (El T32) → Option (El T65)) (F33 : (El T65) → (El T65) → Option (Bool)) (F38 : (Int × (List (El T34) × Int)) → Option (Unit × (Int × (List (El T34) × Int)))) (K : Nat) (o0 : Int × (List (El T34) × Int)) : ∀ (n : Nat) (ps3 : Int) (ps19 : Int) (ph400000 : List (El T34)), loopN Try.prog (tab20 F37 F32 F33 F38) 0 K Try.f20 la20 gq20.k 0 [] n (hd20_0 o0 ps3 ps19 ph400000) = L20_0 F37 F32 F33 F38 K o0 n ps3 ps19 ph400000
  | 0, _, _, _ => by kernel_rfl
  | n + 1, ps3, ps19, ph400000 => by
    have h : loopN Try.prog (tab20 F37 F32 F33 F38) 0 K Try.f20 la20 gq20.k 0 [] (n + 1) (hd20_0 o0 ps3 ps19 ph400000) = b20_0 F37 F32 F33 F38 K o0 (fun q0 q1 q2 => loopN Try.prog (tab20 F37 F32 F33 F38) 0 K Try.f20 la20 gq20.k 0 [] n (hd20_0 o0 q0 q1 q2)) (fun k q0 q1 q2 q3 q4 q5 q6 => loopN Try.prog (tab20 F37 F32 F33 F38) 0 K Try.f20 la20 gq20.k 1 [n] k (hd20_1 o0 q0 q1 q2 q3 q4 q5 q6)) (fun k q0 q1 q2 q3 q4 q5 q6 q7 q8 => loopN Try.prog (tab20 F37 F32 F33 F38) 0 K Try.f20 la20 gq20.k 2 [] k (hd20_2 o0 q0 q1 q2 q3 q4 q5 q6 q7 q8)) ps3 ps19 ph400000 := by kernel_rfl
    rw [h]
    simp only [lp20_0 F37 F32 F33 F38 K o0 n, lp20_1 F37 F32 F33 F38 K o0 n, lp20_2 F37 F32 F33 F38 K o0]
    rfl
theorem ev20 (F37 : (El T62) → Int → Option (El T65)) (F32 : (El T32) → Option (El T65)) (F33 : (El T65) → (El T65) → Option (Bool)) (F38 : (Int × (List (El T34) × Int)) → Option (Unit × (Int × (List (El T34) × Int)))) (K : Nat) (o0 : Int × (List (El T34) × Int)) : evFun Try.prog (tab20 F37 F32 F33 F38) 0 K Try.f20 la20 [.ptr 2000000 0] (hpB ob20 o0) gq20.k = G20 F37 F32 F33 F38 K o0 := by
  have h : evFun Try.prog (tab20 F37 F32 F33 F38) 0 K Try.f20 la20 [.ptr 2000000 0] (hpB ob20 o0) gq20.k = t20 F37 F32 F33 F38 K o0 (fun k q0 q1 q2 => loopN Try.prog (tab20 F37 F32 F33 F38) 0 K Try.f20 la20 gq20.k 0 [] k (hd20_0 o0 q0 q1 q2)) := by kernel_rfl
  rw [h]
  simp only [lp20_0 F37 F32 F33 F38 K o0]
  rfl
noncomputable def F20 (K : Nat) (o0 : Int × (List (El T34) × Int)) : Option (Int × (Int × (List (El T34) × Int))) := G20 (F37 K) (F32 K) (F33 K) (F38 K) K o0
theorem cok20 (K : Nat) : CallOK D Try.prog (tab20 (F37 K) (F32 K) (F33 K) (F38 K)) := (addG_ok (add_ok (add_ok (add_ok none_ok ent37 (ok37 K)) ent32 (ok32 K)) ent33 (ok33 K)) ent38 (ok38 K))
theorem ok20 (K : Nat) : RowG D Try.prog 20 (rowG (gad ag20 ob20) gq20 fun p => F20 K p.2) := rowG_ok fun x r h => ghas_of (cok20 K) Try.func20 ((ev20 (F37 K) (F32 K) (F33 K) (F38 K) K x.2).trans h)
/-! ganger/gangerlaw16.matrix -/
noncomputable def tab10 (F2023 : Option ((Int × (List (El T34) × Int)) × Int × Unit)) (F21 : Int → Int → (Int × (List (El T34) × Int)) → Option ((El T34 × Int) × (Int × (List (El T34) × Int)))) (F22 : Int → (Int × (List (El T34) × Int)) → Option (Int × (Int × (List (El T34) × Int)))) (F18 : (Int × (List (El T34) × Int)) → Option (Unit × (Int × (List (El T34) × Int)))) (F20 : (Int × (List (El T34) × Int)) → Option (Int × (Int × (List (El T34) × Int)))) : Tab := (((((Tab.none.addG 23 (rowG (gad ag2023 ob2023) gq2023 fun p => F2023)).addG 21 (rowG (gad ag21 ob21) gq21 fun p => F21 p.1.1 p.1.2.1 p.2)).addG 22 (rowG (gad ag22 ob22) gq22 fun p => F22 p.1.1 p.2)).addG 18 (rowG (gad ag18 ob18) gq18 fun p => F18 p.2)).addG 20 (rowG (gad ag20 ob20) gq20 fun p => F20 p.2))
noncomputable def la10 : List (List Tidy) := [[.only [0, 3, 5], .ids [8], .top [1000000]]]
noncomputable def hd10_0 (a0 : List (El T53)) (ps5 : Int) (ph8_0 : Int) (ph8_2 : Int) (ph500800 : List (El T34)) : St := { tm := slots (nat_lit 57) [(nat_lit 0, AV.row T53 a0), (nat_lit 3, AV.ptr (nat_lit 8) (nat_lit 0)), (nat_lit 5, AV.sc (Value.int IntKind.i64 ps5))], H := [(nat_lit 8, ABlk.box (nat_lit 62) [AV.sc (Value.int IntKind.i64 ph8_0), AV.own (nat_lit 500800), AV.sc (Value.int IntKind.i64 ph8_2)]), (nat_lit 500800, ABlk.arr (nat_lit 34) T34 ph500800)] }
noncomputable def b10_0 (F2023 : Option ((Int × (List (El T34) × Int)) × Int × Unit)) (F21 : Int → Int → (Int × (List (El T34) × Int)) → Option ((El T34 × Int) × (Int × (List (El T34) × Int)))) (F22 : Int → (Int × (List (El T34) × Int)) → Option (Int × (Int × (List (El T34) × Int)))) (F18 : (Int × (List (El T34) × Int)) → Option (Unit × (Int × (List (El T34) × Int)))) (F20 : (Int × (List (El T34) × Int)) → Option (Int × (Int × (List (El T34) × Int)))) (K : Nat) (a0 : List (El T53)) (r0 : Int → Int → Int → (List (El T34)) → Option ((Int × (List (El T34) × Int)) × Unit)) (ps5 : Int) (ph8_0 : Int) (ph8_2 : Int) (ph500800 : List (El T34)) : Option ((Int × (List (El T34) × Int)) × Unit) :=(if decide (ps5 < (↑a0.length : Int)) = true then (if decide (ps5 < (50 : Int)) = true then (if decide ((0 : Int) ≤ ps5 ∧ ps5 < (↑a0.length : Int)) = true then (if ((a0.getD ps5.toNat (zEl T53)).1 == (0 : Int)) = true then 
      (Option.bind (F21 (a0.getD ps5.toNat (zEl T53)).2.1 (a0.getD ps5.toNat (zEl T53)).2.2 (ph8_0, ph500800, ph8_2)) fun x1 => r0 (IntKind.i64.wrap (ps5 + (1 : Int))) (x1.2.1) (x1.2.2.2) (x1.2.2.1))
     else (if ((a0.getD ps5.toNat (zEl T53)).1 == (1 : Int)) = true then 
       (Option.bind (F21 (a0.getD ps5.toNat (zEl T53)).2.1 (a0.getD ps5.toNat (zEl T53)).2.2 (ph8_0, ph500800, ph8_2)) fun x2 => r0 (IntKind.i64.wrap (ps5 + (1 : Int))) (x2.2.1) (x2.2.2.2) (x2.2.2.1))
      else (if ((a0.getD ps5.toNat (zEl T53)).1 == (2 : Int)) = true then 
        (Option.bind (F21 (a0.getD ps5.toNat (zEl T53)).2.1 (a0.getD ps5.toNat (zEl T53)).2.2 (ph8_0, ph500800, ph8_2)) fun x3 => r0 (IntKind.i64.wrap (ps5 + (1 : Int))) (x3.2.1) (x3.2.2.2) (x3.2.2.1))
       else (if ((a0.getD ps5.toNat (zEl T53)).1 == (3 : Int)) = true then 
         (Option.bind (F22 (a0.getD ps5.toNat (zEl T53)).2.1 (ph8_0, ph500800, ph8_2)) fun x4 => r0 (IntKind.i64.wrap (ps5 + (1 : Int))) (x4.2.1) (x4.2.2.2) (x4.2.2.1))
        else (if ((a0.getD ps5.toNat (zEl T53)).1 == (4 : Int)) = true then 
          (Option.bind (F22 (a0.getD ps5.toNat (zEl T53)).2.1 (ph8_0, ph500800, ph8_2)) fun x5 => r0 (IntKind.i64.wrap (ps5 + (1 : Int))) (x5.2.1) (x5.2.2.2) (x5.2.2.1))
         else (if ((a0.getD ps5.toNat (zEl T53)).1 == (5 : Int)) = true then 
           (Option.bind (F18 (ph8_0, ph500800, ph8_2)) fun x6 => r0 (IntKind.i64.wrap (ps5 + (1 : Int))) (x6.2.1) (x6.2.2.2) (x6.2.2.1))
          else 
           (Option.bind (F20 (ph8_0, ph500800, ph8_2)) fun x7 => r0 (IntKind.i64.wrap (ps5 + (1 : Int))) (x7.2.1) (x7.2.2.2) (x7.2.2.1))))))))
    else none)
   else some (((ph8_0, ph500800, ph8_2), ())))
  else some (((ph8_0, ph500800, ph8_2), ())))
noncomputable def L10_0 (F2023 : Option ((Int × (List (El T34) × Int)) × Int × Unit)) (F21 : Int → Int → (Int × (List (El T34) × Int)) → Option ((El T34 × Int) × (Int × (List (El T34) × Int)))) (F22 : Int → (Int × (List (El T34) × Int)) → Option (Int × (Int × (List (El T34) × Int)))) (F18 : (Int × (List (El T34) × Int)) → Option (Unit × (Int × (List (El T34) × Int)))) (F20 : (Int × (List (El T34) × Int)) → Option (Int × (Int × (List (El T34) × Int)))) (K : Nat) (a0 : List (El T53)) : Nat → Int → Int → Int → (List (El T34)) → Option ((Int × (List (El T34) × Int)) × Unit)
  | 0, _, _, _, _ => none
  | n + 1, ps5, ph8_0, ph8_2, ph500800 => b10_0 F2023 F21 F22 F18 F20 K a0 (L10_0 F2023 F21 F22 F18 F20 K a0 n) ps5 ph8_0 ph8_2 ph500800
noncomputable def t10 (F2023 : Option ((Int × (List (El T34) × Int)) × Int × Unit)) (F21 : Int → Int → (Int × (List (El T34) × Int)) → Option ((El T34 × Int) × (Int × (List (El T34) × Int)))) (F22 : Int → (Int × (List (El T34) × Int)) → Option (Int × (Int × (List (El T34) × Int)))) (F18 : (Int × (List (El T34) × Int)) → Option (Unit × (Int × (List (El T34) × Int)))) (F20 : (Int × (List (El T34) × Int)) → Option (Int × (Int × (List (El T34) × Int)))) (K : Nat) (a0 : List (El T53)) (l0 : Nat → Int → Int → Int → (List (El T34)) → Option ((Int × (List (El T34) × Int)) × Unit)) : Option ((Int × (List (El T34) × Int)) × Unit) := 
 (Option.bind (F2023) fun x0 => (if (x0.2.1 != (0 : Int)) = true then none
  else l0 K ((0 : Int)) (x0.1.1) (x0.1.2.2) (x0.1.2.1)))
noncomputable def G10 (F2023 : Option ((Int × (List (El T34) × Int)) × Int × Unit)) (F21 : Int → Int → (Int × (List (El T34) × Int)) → Option ((El T34 × Int) × (Int × (List (El T34) × Int)))) (F22 : Int → (Int × (List (El T34) × Int)) → Option (Int × (Int × (List (El T34) × Int)))) (F18 : (Int × (List (El T34) × Int)) → Option (Unit × (Int × (List (El T34) × Int)))) (F20 : (Int × (List (El T34) × Int)) → Option (Int × (Int × (List (El T34) × Int)))) (K : Nat) (a0 : List (El T53)) : Option ((Int × (List (El T34) × Int)) × Unit) := t10 F2023 F21 F22 F18 F20 K a0 (L10_0 F2023 F21 F22 F18 F20 K a0)
theorem lp10_0 (F2023 : Option ((Int × (List (El T34) × Int)) × Int × Unit)) (F21 : Int → Int → (Int × (List (El T34) × Int)) → Option ((El T34 × Int) × (Int × (List (El T34) × Int)))) (F22 : Int → (Int × (List (El T34) × Int)) → Option (Int × (Int × (List (El T34) × Int)))) (F18 : (Int × (List (El T34) × Int)) → Option (Unit × (Int × (List (El T34) × Int)))) (F20 : (Int × (List (El T34) × Int)) → Option (Int × (Int × (List (El T34) × Int)))) (K : Nat) (a0 : List (El T53)) : ∀ (n : Nat) (ps5 : Int) (ph8_0 : Int) (ph8_2 : Int) (ph500800 : List (El T34)), loopN Try.prog (tab10 F2023 F21 F22 F18 F20) 0 K Try.f10 la10 gq10.k 0 [] n (hd10_0 a0 ps5 ph8_0 ph8_2 ph500800) = L10_0 F2023 F21 F22 F18 F20 K a0 n ps5 ph8_0 ph8_2 ph500800
  | 0, _, _, _, _ => by kernel_rfl
  | n + 1, ps5, ph8_0, ph8_2, ph500800 => by
    have h : loopN Try.prog (tab10 F2023 F21 F22 F18 F20) 0 K Try.f10 la10 gq10.k 0 [] (n + 1) (hd10_0 a0 ps5 ph8_0 ph8_2 ph500800) = b10_0 F2023 F21 F22 F18 F20 K a0 (fun q0 q1 q2 q3 => loopN Try.prog (tab10 F2023 F21 F22 F18 F20) 0 K Try.f10 la10 gq10.k 0 [] n (hd10_0 a0 q0 q1 q2 q3)) ps5 ph8_0 ph8_2 ph500800 := by kernel_rfl
    rw [h]
    simp only [lp10_0 F2023 F21 F22 F18 F20 K a0 n]
    rfl
theorem ev10 (F2023 : Option ((Int × (List (El T34) × Int)) × Int × Unit)) (F21 : Int → Int → (Int × (List (El T34) × Int)) → Option ((El T34 × Int) × (Int × (List (El T34) × Int)))) (F22 : Int → (Int × (List (El T34) × Int)) → Option (Int × (Int × (List (El T34) × Int)))) (F18 : (Int × (List (El T34) × Int)) → Option (Unit × (Int × (List (El T34) × Int)))) (F20 : (Int × (List (El T34) × Int)) → Option (Int × (Int × (List (El T34) × Int)))) (K : Nat) (a0 : List (El T53)) : evFun Try.prog (tab10 F2023 F21 F22 F18 F20) 0 K Try.f10 la10 [.row T53 a0] (hpB ob10 ()) gq10.k = G10 F2023 F21 F22 F18 F20 K a0 := by
  have h : evFun Try.prog (tab10 F2023 F21 F22 F18 F20) 0 K Try.f10 la10 [.row T53 a0] (hpB ob10 ()) gq10.k = t10 F2023 F21 F22 F18 F20 K a0 (fun k q0 q1 q2 q3 => loopN Try.prog (tab10 F2023 F21 F22 F18 F20) 0 K Try.f10 la10 gq10.k 0 [] k (hd10_0 a0 q0 q1 q2 q3)) := by kernel_rfl
  rw [h]
  simp only [lp10_0 F2023 F21 F22 F18 F20 K a0]
  rfl
noncomputable def F10 (K : Nat) (a0 : List (El T53)) : Option ((Int × (List (El T34) × Int)) × Unit) := G10 (F2023 K) (F21 K) (F22 K) (F18 K) (F20 K) K a0
theorem cok10 (K : Nat) : CallOK D Try.prog (tab10 (F2023 K) (F21 K) (F22 K) (F18 K) (F20 K)) := (addG_ok (addG_ok (addG_ok (addG_ok (addG_ok none_ok ent2023 (ok2023 K)) ent21 (ok21 K)) ent22 (ok22 K)) ent18 (ok18 K)) ent20 (ok20 K))
theorem ok10 (K : Nat) : RowG D Try.prog 10 (rowG (gad ag10 ob10) gq10 fun p => F10 K p.1.1) := rowG_ok fun x r h => ghas_of (cok10 K) Try.func10 ((ev10 (F2023 K) (F21 K) (F22 K) (F18 K) (F20 K) K x.1.1).trans h)
/-! slices.Clone[[]ganger/api.Cell,ganger/api.Cell] -/
noncomputable def tab31 : Tab := Tab.none
noncomputable def t31 (K : Nat) (a0 : List (El T34)) : Option (List (El T34)) := (if a0.length = (0 : Nat) then 
  (both (some ([]))
  ((if decide (((0 : Nat) + a0.length) * Try.prog.types[(34 : Nat)].bytes ≤ (140737488355328 : Nat)) = true then some (a0)
   else none)))
 else (if decide (((0 : Nat) + a0.length) * Try.prog.types[(34 : Nat)].bytes ≤ (140737488355328 : Nat)) = true then some (a0)
  else none))
noncomputable def G31 (K : Nat) (a0 : List (El T34)) : Option (List (El T34)) := t31 K a0
theorem ev31 (K : Nat) (a0 : List (El T34)) : evFun Try.prog (tab31) 0 K Try.f31 [] [.row T34 a0] [] dq31.k = G31 K a0 := by
  kernel_rfl
noncomputable def F31 (K : Nat) (a0 : List (El T34)) : Option (List (El T34)) := G31 K a0
theorem cok31 (K : Nat) : CallOK D Try.prog (tab31) := none_ok
theorem ok31 (K : Nat) : RowOK D Try.prog 31 (row ad31 dq31 fun p => F31 K p) := row_ok fun x r h => has_of (cok31 K) Try.func31 ((ev31 K x).trans h)
/-! (*ganger/gang.Matrix).Cells -/
noncomputable def tab11 (F31 : (List (El T34)) → Option (List (El T34))) : Tab := (Tab.none.add 31 (row ad31 dq31 fun p => F31 p))
noncomputable def t11 (F31 : (List (El T34)) → Option (List (El T34))) (K : Nat) (a0 : El T62) : Option (List (El T34)) := 
 (Option.bind (F31 a0.2.1) fun x0 => some (x0))
noncomputable def G11 (F31 : (List (El T34)) → Option (List (El T34))) (K : Nat) (a0 : El T62) : Option (List (El T34)) := t11 F31 K a0
theorem ev11 (F31 : (List (El T34)) → Option (List (El T34))) (K : Nat) (a0 : El T62) : evFun Try.prog (tab11 F31) 0 K Try.f11 [] [.eptr T62 a0 0] [] dq11.k = G11 F31 K a0 := by
  kernel_rfl
noncomputable def F11 (K : Nat) (a0 : El T62) : Option (List (El T34)) := G11 (F31 K) K a0
theorem cok11 (K : Nat) : CallOK D Try.prog (tab11 (F31 K)) := (add_ok none_ok ent31 (ok31 K))
theorem ok11 (K : Nat) : RowOK D Try.prog 11 (row ad11 dq11 fun p => F11 K p) := row_ok fun x r h => has_of (cok11 K) Try.func11 ((ev11 (F31 K) K x).trans h)
/-! (*ganger/gang.Matrix).Runs -/
noncomputable def tab12 (F17 : (El T62) → Option (Int)) (F32 : (El T32) → Option (El T65)) (F33 : (El T65) → (El T65) → Option (Bool)) (F34 : (El T65) → (El T65) → Option (El T65)) (F35 : (List Int) → Option (Unit × List Int)) : Tab := (((((Tab.none.add 17 (row ad17 dq17 fun p => F17 p)).add 32 (row ad32 dq32 fun p => F32 p)).add 33 (row ad33 dq33 fun p => F33 p.1 p.2)).add 34 (row ad34 dq34 fun p => F34 p.1 p.2)).addG 35 (rowG (gad ag35 ob35) gq35 fun p => F35 p.2))
noncomputable def la12 : List (List Tidy) := [[.only [0, 3, 4, 5, 15, 16], .pro 3 56 30 (Ty.int IntKind.u32), .ids [4, 14, 56, 60], .top [1000000]], [.only [0, 3, 4, 5, 7, 15, 16, 30, 31, 32], .pro 3 56 30 (Ty.int IntKind.u32), .ids [4, 14, 31, 56, 60], .top [1000001]]]
noncomputable def hd12_0 (a0 : El T62) (ps5 : Int) (ps15 : Int) (ps16 : Int) (ph4 : El T65) (ph56 : List (Int)) : St := { tm := slots (nat_lit 62) [(nat_lit 0, AV.eptr T62 a0 (nat_lit 0)), (nat_lit 3, AV.own (nat_lit 56)), (nat_lit 4, AV.ptr (nat_lit 4) (nat_lit 0)), (nat_lit 5, AV.sc (Value.int IntKind.i64 ps5)), (nat_lit 15, AV.sc (Value.int IntKind.i64 ps15)), (nat_lit 16, AV.sc (Value.int IntKind.i64 ps16))], H := [(nat_lit 4, ABlk.box (nat_lit 65) (cellsOf T65 ph4)), (nat_lit 56, ABlk.arr (nat_lit 30) (Ty.int IntKind.u32) ph56)] }
noncomputable def hd12_1 (a0 : El T62) (ps5 : Int) (ps7 : Int) (ps15 : Int) (ps16 : Int) (ps32 : Int) (ph4 : El T65) (ph56 : List (Int)) : St := { tm := slots (nat_lit 62) [(nat_lit 0, AV.eptr T62 a0 (nat_lit 0)), (nat_lit 3, AV.own (nat_lit 56)), (nat_lit 4, AV.ptr (nat_lit 4) (nat_lit 0)), (nat_lit 5, AV.sc (Value.int IntKind.i64 ps5)), (nat_lit 7, AV.sc (Value.int IntKind.i64 ps7)), (nat_lit 15, AV.sc (Value.int IntKind.i64 ps15)), (nat_lit 16, AV.sc (Value.int IntKind.i64 ps16)), (nat_lit 30, AV.row T34 a0.2.1), (nat_lit 31, AV.sc (Value.int IntKind.i64 (↑(List.length a0.2.1) : Int))), (nat_lit 32, AV.sc (Value.int IntKind.i64 ps32))], H := [(nat_lit 4, ABlk.box (nat_lit 65) (cellsOf T65 ph4)), (nat_lit 56, ABlk.arr (nat_lit 30) (Ty.int IntKind.u32) ph56)] }
noncomputable def b12_1 (F17 : (El T62) → Option (Int)) (F32 : (El T32) → Option (El T65)) (F33 : (El T65) → (El T65) → Option (Bool)) (F34 : (El T65) → (El T65) → Option (El T65)) (F35 : (List Int) → Option (Unit × List Int)) (K : Nat) (a0 : El T62) (r0 : Int → Int → Int → (El T65) → (List (Int)) → Option (List (El (.int .u32)))) (r1 : Int → Int → Int → Int → Int → (El T65) → (List (Int)) → Option (List (El (.int .u32)))) (ps5 : Int) (ps7 : Int) (ps15 : Int) (ps16 : Int) (ps32 : Int) (ph4 : El T65) (ph56 : List (Int)) : Option (List (El (.int .u32))) :=(if decide (ps32 < (↑(List.length a0.2.1) : Int)) = true then (if decide ((0 : Int) ≤ ps32 ∧ ps32 < (↑(List.length a0.2.1) : Int)) = true then 
    (Option.bind (F32 (List.getD a0.2.1 ps32.toNat (zEl T34)).2.2) fun x2 => (if ((List.getD a0.2.1 ps32.toNat (zEl T34)).2.1 == ps7) = true then 
      (Option.bind (F33 ph4 x2) fun x3 => (if (!x3) = true then 
        (Option.bind (F34 ph4 x2) fun x4 => (if decide ((ph56.length + [(List.getD a0.2.1 ps32.toNat (zEl T34)).1].length) * Try.prog.types[(30 : Nat)].bytes ≤ (140737488355328 : Nat)) = true then r1 (ps5) (ps7) (ps15) (ps16) (IntKind.i64.wrap (ps32 + (1 : Int))) (x4) (ph56 ++ [(List.getD a0.2.1 ps32.toNat (zEl T34)).1])
         else none))
       else r1 (ps5) (ps7) (ps15) (ps16) (IntKind.i64.wrap (ps32 + (1 : Int))) (ph4) (ph56)))
     else r1 (ps5) (ps7) (ps15) (ps16) (IntKind.i64.wrap (ps32 + (1 : Int))) (ph4) (ph56)))
   else none)
  else r0 (ps5) (ps15) (IntKind.i64.wrap (ps16 + (1 : Int))) (ph4) (ph56))
noncomputable def L12_1 (F17 : (El T62) → Option (Int)) (F32 : (El T32) → Option (El T65)) (F33 : (El T65) → (El T65) → Option (Bool)) (F34 : (El T65) → (El T65) → Option (El T65)) (F35 : (List Int) → Option (Unit × List Int)) (K : Nat) (a0 : El T62) (r0 : Int → Int → Int → (El T65) → (List (Int)) → Option (List (El (.int .u32)))) : Nat → Int → Int → Int → Int → Int → (El T65) → (List (Int)) → Option (List (El (.int .u32)))
  | 0, _, _, _, _, _, _, _ => none
  | n + 1, ps5, ps7, ps15, ps16, ps32, ph4, ph56 => b12_1 F17 F32 F33 F34 F35 K a0 r0 (L12_1 F17 F32 F33 F34 F35 K a0 r0 n) ps5 ps7 ps15 ps16 ps32 ph4 ph56
noncomputable def b12_0 (F17 : (El T62) → Option (Int)) (F32 : (El T32) → Option (El T65)) (F33 : (El T65) → (El T65) → Option (Bool)) (F34 : (El T65) → (El T65) → Option (El T65)) (F35 : (List Int) → Option (Unit × List Int)) (K : Nat) (a0 : El T62) (r0 : Int → Int → Int → (El T65) → (List (Int)) → Option (List (El (.int .u32)))) (l1 : Nat → Int → Int → Int → Int → Int → (El T65) → (List (Int)) → Option (List (El (.int .u32)))) (ps5 : Int) (ps15 : Int) (ps16 : Int) (ph4 : El T65) (ph56 : List (Int)) : Option (List (El (.int .u32))) :=(if decide (ps16 < ps15) = true then (if (!ps5 == (0 : Int)) = true then l1 K (ps5) ((IntKind.i64.wrap (a0.2.2 + ps16)).tmod ps5) (ps15) (ps16) ((0 : Int)) (ph4) (ph56)
   else none)
  else 
   (Option.bind (F35 ph56) fun x1 => some (x1.2)))
noncomputable def L12_0 (F17 : (El T62) → Option (Int)) (F32 : (El T32) → Option (El T65)) (F33 : (El T65) → (El T65) → Option (Bool)) (F34 : (El T65) → (El T65) → Option (El T65)) (F35 : (List Int) → Option (Unit × List Int)) (K : Nat) (a0 : El T62) : Nat → Int → Int → Int → (El T65) → (List (Int)) → Option (List (El (.int .u32)))
  | 0, _, _, _, _, _ => none
  | n + 1, ps5, ps15, ps16, ph4, ph56 => b12_0 F17 F32 F33 F34 F35 K a0 (L12_0 F17 F32 F33 F34 F35 K a0 n) (L12_1 F17 F32 F33 F34 F35 K a0 (L12_0 F17 F32 F33 F34 F35 K a0 n)) ps5 ps15 ps16 ph4 ph56
noncomputable def t12 (F17 : (El T62) → Option (Int)) (F32 : (El T32) → Option (El T65)) (F33 : (El T65) → (El T65) → Option (Bool)) (F34 : (El T65) → (El T65) → Option (El T65)) (F35 : (List Int) → Option (Unit × List Int)) (K : Nat) (a0 : El T62) (l0 : Nat → Int → Int → Int → (El T65) → (List (Int)) → Option (List (El (.int .u32)))) : Option (List (El (.int .u32))) := 
 (Option.bind (F17 a0) fun x0 => l0 K (x0) (x0) ((0 : Int)) (((0 : Int), (0 : Int), (0 : Int), (0 : Int), (0 : Int), (0 : Int), (0 : Int), (0 : Int), (0 : Int), (0 : Int), (0 : Int), (0 : Int), (0 : Int), (0 : Int), (0 : Int), (0 : Int))) ([]))
noncomputable def G12 (F17 : (El T62) → Option (Int)) (F32 : (El T32) → Option (El T65)) (F33 : (El T65) → (El T65) → Option (Bool)) (F34 : (El T65) → (El T65) → Option (El T65)) (F35 : (List Int) → Option (Unit × List Int)) (K : Nat) (a0 : El T62) : Option (List (El (.int .u32))) := t12 F17 F32 F33 F34 F35 K a0 (L12_0 F17 F32 F33 F34 F35 K a0)
theorem lp12_1 (F17 : (El T62) → Option (Int)) (F32 : (El T32) → Option (El T65)) (F33 : (El T65) → (El T65) → Option (Bool)) (F34 : (El T65) → (El T65) → Option (El T65)) (F35 : (List Int) → Option (Unit × List Int)) (K : Nat) (a0 : El T62) : ∀ (m0 : Nat) (n : Nat) (ps5 : Int) (ps7 : Int) (ps15 : Int) (ps16 : Int) (ps32 : Int) (ph4 : El T65) (ph56 : List (Int)), loopN Try.prog (tab12 F17 F32 F33 F34 F35) 0 K Try.f12 la12 dq12.k 1 [m0] n (hd12_1 a0 ps5 ps7 ps15 ps16 ps32 ph4 ph56) = L12_1 F17 F32 F33 F34 F35 K a0 (fun q0 q1 q2 q3 q4 => loopN Try.prog (tab12 F17 F32 F33 F34 F35) 0 K Try.f12 la12 dq12.k 0 [] m0 (hd12_0 a0 q0 q1 q2 q3 q4)) n ps5 ps7 ps15 ps16 ps32 ph4 ph56
  | m0, 0, _, _, _, _, _, _, _ => by kernel_rfl
  | m0, n + 1, ps5, ps7, ps15, ps16, ps32, ph4, ph56 => by
    have h : loopN Try.prog (tab12 F17 F32 F33 F34 F35) 0 K Try.f12 la12 dq12.k 1 [m0] (n + 1) (hd12_1 a0 ps5 ps7 ps15 ps16 ps32 ph4 ph56) = b12_1 F17 F32 F33 F34 F35 K a0 (fun q0 q1 q2 q3 q4 => loopN Try.prog (tab12 F17 F32 F33 F34 F35) 0 K Try.f12 la12 dq12.k 0 [] m0 (hd12_0 a0 q0 q1 q2 q3 q4)) (fun q0 q1 q2 q3 q4 q5 q6 => loopN Try.prog (tab12 F17 F32 F33 F34 F35) 0 K Try.f12 la12 dq12.k 1 [m0] n (hd12_1 a0 q0 q1 q2 q3 q4 q5 q6)) ps5 ps7 ps15 ps16 ps32 ph4 ph56 := by kernel_rfl
    rw [h]
    simp only [lp12_1 F17 F32 F33 F34 F35 K a0 m0 n]
    rfl
theorem lp12_0 (F17 : (El T62) → Option (Int)) (F32 : (El T32) → Option (El T65)) (F33 : (El T65) → (El T65) → Option (Bool)) (F34 : (El T65) → (El T65) → Option (El T65)) (F35 : (List Int) → Option (Unit × List Int)) (K : Nat) (a0 : El T62) : ∀ (n : Nat) (ps5 : Int) (ps15 : Int) (ps16 : Int) (ph4 : El T65) (ph56 : List (Int)), loopN Try.prog (tab12 F17 F32 F33 F34 F35) 0 K Try.f12 la12 dq12.k 0 [] n (hd12_0 a0 ps5 ps15 ps16 ph4 ph56) = L12_0 F17 F32 F33 F34 F35 K a0 n ps5 ps15 ps16 ph4 ph56
  | 0, _, _, _, _, _ => by kernel_rfl
  | n + 1, ps5, ps15, ps16, ph4, ph56 => by
    have h : loopN Try.prog (tab12 F17 F32 F33 F34 F35) 0 K Try.f12 la12 dq12.k 0 [] (n + 1) (hd12_0 a0 ps5 ps15 ps16 ph4 ph56) = b12_0 F17 F32 F33 F34 F35 K a0 (fun q0 q1 q2 q3 q4 => loopN Try.prog (tab12 F17 F32 F33 F34 F35) 0 K Try.f12 la12 dq12.k 0 [] n (hd12_0 a0 q0 q1 q2 q3 q4)) (fun k q0 q1 q2 q3 q4 q5 q6 => loopN Try.prog (tab12 F17 F32 F33 F34 F35) 0 K Try.f12 la12 dq12.k 1 [n] k (hd12_1 a0 q0 q1 q2 q3 q4 q5 q6)) ps5 ps15 ps16 ph4 ph56 := by kernel_rfl
    rw [h]
    simp only [lp12_0 F17 F32 F33 F34 F35 K a0 n, lp12_1 F17 F32 F33 F34 F35 K a0 n]
    rfl
theorem ev12 (F17 : (El T62) → Option (Int)) (F32 : (El T32) → Option (El T65)) (F33 : (El T65) → (El T65) → Option (Bool)) (F34 : (El T65) → (El T65) → Option (El T65)) (F35 : (List Int) → Option (Unit × List Int)) (K : Nat) (a0 : El T62) : evFun Try.prog (tab12 F17 F32 F33 F34 F35) 0 K Try.f12 la12 [.eptr T62 a0 0] [] dq12.k = G12 F17 F32 F33 F34 F35 K a0 := by
  have h : evFun Try.prog (tab12 F17 F32 F33 F34 F35) 0 K Try.f12 la12 [.eptr T62 a0 0] [] dq12.k = t12 F17 F32 F33 F34 F35 K a0 (fun k q0 q1 q2 q3 q4 => loopN Try.prog (tab12 F17 F32 F33 F34 F35) 0 K Try.f12 la12 dq12.k 0 [] k (hd12_0 a0 q0 q1 q2 q3 q4)) := by kernel_rfl
  rw [h]
  simp only [lp12_0 F17 F32 F33 F34 F35 K a0]
  rfl
noncomputable def F12 (K : Nat) (a0 : El T62) : Option (List (El (.int .u32))) := G12 (F17 K) (F32 K) (F33 K) (F34 K) (F35 K) K a0
theorem cok12 (K : Nat) : CallOK D Try.prog (tab12 (F17 K) (F32 K) (F33 K) (F34 K) (F35 K)) := (addG_ok (add_ok (add_ok (add_ok (add_ok none_ok ent17 (ok17 K)) ent32 (ok32 K)) ent33 (ok33 K)) ent34 (ok34 K)) ent35 (ok35 K))
theorem ok12 (K : Nat) : RowOK D Try.prog 12 (row ad12 dq12 fun p => F12 K p) := row_ok fun x r h => has_of (cok12 K) Try.func12 ((ev12 (F17 K) (F32 K) (F33 K) (F34 K) (F35 K) K x).trans h)
end Go.Proofs.YtlpalhgiiodjoaaE
