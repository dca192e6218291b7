import Derived.Test.YtlpalhgiiodjoaaS16W49
set_option linter.all false
namespace Go.Proofs.YtlpalhgiiodjoaaE
open Go Go.Proofs
set_option maxRecDepth 100000
set_option linter.unusedVariables false
variable {D : Prop}
/-! (*ganger/gang.Matrix).sort -/
noncomputable def tab38 (F49 : Unit → List (El T34) → Option (List (El T34))) (F50 : (El T34) → (El T34) → Option (Int)) : Tab := ((Tab.none.addW 49 (rowW T34 ad49 F49 false)).add 50 (row ad50 dq50 fun p => F50 p.1 p.2))
noncomputable def t38 (F49 : Unit → List (El T34) → Option (List (El T34))) (F50 : (El T34) → (El T34) → Option (Int)) (K : Nat) (o0 : Int × (List (El T34) × Int)) : Option (Unit × (Int × (List (El T34) × Int))) := 
 (Option.bind (F49 () o0.2.1) fun x0 => some (((), o0.1, x0, o0.2.2)))
noncomputable def G38 (F49 : Unit → List (El T34) → Option (List (El T34))) (F50 : (El T34) → (El T34) → Option (Int)) (K : Nat) (o0 : Int × (List (El T34) × Int)) : Option (Unit × (Int × (List (El T34) × Int))) := t38 F49 F50 K o0
theorem ev38 (F49 : Unit → List (El T34) → Option (List (El T34))) (F50 : (El T34) → (El T34) → Option (Int)) (K : Nat) (o0 : Int × (List (El T34) × Int)) : evFun Try.prog (tab38 F49 F50) 0 K Try.f38 [] [.ptr 2000000 0] (hpB ob38 o0) gq38.k = G38 F49 F50 K o0 := by
  kernel_rfl
noncomputable def F38 (K : Nat) (o0 : Int × (List (El T34) × Int)) : Option (Unit × (Int × (List (El T34) × Int))) := G38 (F49 K) (F50 K) K o0
theorem cok38 (K : Nat) : CallOK D Try.prog (tab38 (F49 K) (F50 K)) := (add_ok (addW_ok none_ok ent49 (ok49 K)) ent50 (ok50 K))
theorem ok38 (K : Nat) : RowG D Try.prog 38 (rowG (gad ag38 ob38) gq38 fun p => F38 K p.2) := rowG_ok fun x r h => ghas_of (cok38 K) Try.func38 ((ev38 (F49 K) (F50 K) K x.2).trans h)
/-! ganger/gang.New -/
noncomputable def tab23 : Tab := Tab.none
noncomputable def t23 (K : Nat) (a0 : Int) : Option (Bool × (Int × (List (El T34) × Int)) × Int × Unit) := (if decide (a0 < (0 : Int)) = true then some ((false, (zEl (Ty.int IntKind.i64), [], zEl (Ty.int IntKind.i64)), (2 : Int), ()))
 else (if decide (a0 > (10 : Int)) = true then some ((false, (zEl (Ty.int IntKind.i64), [], zEl (Ty.int IntKind.i64)), (2 : Int), ()))
  else some ((true, (a0, [], (0 : Int)), (0 : Int), ()))))
noncomputable def G23 (K : Nat) (a0 : Int) : Option (Bool × (Int × (List (El T34) × Int)) × Int × Unit) := t23 K a0
theorem ev23 (K : Nat) (a0 : Int) : evFun Try.prog (tab23) 0 K Try.f23 [] [I .i64 a0] (hpB ob23 ()) gq23.k = G23 K a0 := by
  kernel_rfl
noncomputable def F23 (K : Nat) (a0 : Int) : Option (Bool × (Int × (List (El T34) × Int)) × Int × Unit) := G23 K a0
theorem cok23 (K : Nat) : CallOK D Try.prog (tab23) := none_ok
theorem ok23 (K : Nat) : RowG D Try.prog 23 (rowG (gad ag23 ob23) gq23 fun p => F23 K p.1.1) := rowG_ok fun x r h => ghas_of (cok23 K) Try.func23 ((ev23 K x.1.1).trans h)
/-! ganger/gang.New -/
noncomputable def tab2023 : Tab := Tab.none
noncomputable def t2023 (K : Nat) : Option ((Int × (List (El T34) × Int)) × Int × Unit) := some ((((4 : Int), [], (0 : Int)), (0 : Int), ()))
noncomputable def G2023 (K : Nat) : Option ((Int × (List (El T34) × Int)) × Int × Unit) := t2023 K
theorem ev2023 (K : Nat) : evFun Try.prog (tab2023) 0 K Try.f23 [] [I .i64 4] (hpB ob2023 ()) gq2023.k = G2023 K := by
  kernel_rfl
noncomputable def F2023 (K : Nat) : Option ((Int × (List (El T34) × Int)) × Int × Unit) := G2023 K
theorem cok2023 (K : Nat) : CallOK D Try.prog (tab2023) := none_ok
theorem ok2023 (K : Nat) : RowG D Try.prog 23 (rowG (gad ag2023 ob2023) gq2023 fun p => F2023 K) := rowG_ok fun x r h => ghas_of (cok2023 K) Try.func23 ((ev2023 K).trans h)
/-! ganger/gang.New -/
noncomputable def tab3023 : Tab := Tab.none
noncomputable def t3023 (K : Nat) : Option ((Int × (List (El T34) × Int)) × Int × Unit) := some ((((1 : Int), [], (0 : Int)), (0 : Int), ()))
noncomputable def G3023 (K : Nat) : Option ((Int × (List (El T34) × Int)) × Int × Unit) := t3023 K
theorem ev3023 (K : Nat) : evFun Try.prog (tab3023) 0 K Try.f23 [] [I .i64 1] (hpB ob3023 ()) gq3023.k = G3023 K := by
  kernel_rfl
noncomputable def F3023 (K : Nat) : Option ((Int × (List (El T34) × Int)) × Int × Unit) := G3023 K
theorem cok3023 (K : Nat) : CallOK D Try.prog (tab3023) := none_ok
theorem ok3023 (K : Nat) : RowG D Try.prog 23 (rowG (gad ag3023 ob3023) gq3023 fun p => F3023 K) := rowG_ok fun x r h => ghas_of (cok3023 K) Try.func23 ((ev3023 K).trans h)
/-! ganger/gang.New -/
noncomputable def tab4023 : Tab := Tab.none
noncomputable def t4023 (K : Nat) : Option ((Int × (List (El T34) × Int)) × Int × Unit) := some ((((2 : Int), [], (0 : Int)), (0 : Int), ()))
noncomputable def G4023 (K : Nat) : Option ((Int × (List (El T34) × Int)) × Int × Unit) := t4023 K
theorem ev4023 (K : Nat) : evFun Try.prog (tab4023) 0 K Try.f23 [] [I .i64 2] (hpB ob4023 ()) gq4023.k = G4023 K := by
  kernel_rfl
noncomputable def F4023 (K : Nat) : Option ((Int × (List (El T34) × Int)) × Int × Unit) := G4023 K
theorem cok4023 (K : Nat) : CallOK D Try.prog (tab4023) := none_ok
theorem ok4023 (K : Nat) : RowG D Try.prog 23 (rowG (gad ag4023 ob4023) gq4023 fun p => F4023 K) := rowG_ok fun x r h => ghas_of (cok4023 K) Try.func23 ((ev4023 K).trans h)
/-! (*ganger/gang.Matrix).Place -/
noncomputable def tab21 (F39 : (El T62) → Int → Option (Int)) (F37 : (El T62) → Int → Option (El T65)) (F32 : (El T32) → Option (El T65)) (F33 : (El T65) → (El T65) → Option (Bool)) (F38 : (Int × (List (El T34) × Int)) → Option (Unit × (Int × (List (El T34) × Int)))) : Tab := (((((Tab.none.add 39 (row ad39 dq39 fun p => F39 p.1 p.2)).add 37 (row ad37 dq37 fun p => F37 p.1 p.2)).add 32 (row ad32 dq32 fun p => F32 p)).add 33 (row ad33 dq33 fun p => F33 p.1 p.2)).addG 38 (rowG (gad ag38 ob38) gq38 fun p => F38 p.2))
noncomputable def la21 : List (List Tidy) := [[.only [0, 1, 2, 6, 39], .ids [6, 36], .top [1000000]], [.only [0, 1, 2, 6, 8, 9, 10, 39], .ids [6, 9, 36, 44], .top [1000001]]]
noncomputable def hd21_0 (a0 : Int) (a1 : Int) (o0 : Int × (List (El T34) × Int)) (ps39 : Int) : St := { tm := slots (nat_lit 83) [(nat_lit 0, AV.ptr (nat_lit 2000000) (nat_lit 0)), (nat_lit 1, AV.sc (Value.int IntKind.u32 a0)), (nat_lit 2, AV.sc (Value.int IntKind.i64 a1)), (nat_lit 6, AV.ptr (nat_lit 6) (nat_lit 0)), (nat_lit 39, AV.sc (Value.int IntKind.i64 ps39))], H := [(nat_lit 6, ABlk.box (nat_lit 34) (cellsOf T34 ((0 : Int), (0 : Int), (0 : Int), (0 : Int)))), (nat_lit 400000, ABlk.arr (nat_lit 34) T34 o0.2.1), (nat_lit 2000000, ABlk.box (nat_lit 62) [AV.sc (Value.int IntKind.i64 o0.1), AV.own (nat_lit 400000), AV.sc (Value.int IntKind.i64 o0.2.2)])] }
noncomputable def hd21_1 (a0 : Int) (a1 : Int) (o0 : Int × (List (El T34) × Int)) (ps8 : Int) (ps10 : Int) (ps39 : Int) (ph9 : El T65) : St := { tm := slots (nat_lit 83) [(nat_lit 0, AV.ptr (nat_lit 2000000) (nat_lit 0)), (nat_lit 1, AV.sc (Value.int IntKind.u32 a0)), (nat_lit 2, AV.sc (Value.int IntKind.i64 a1)), (nat_lit 6, AV.ptr (nat_lit 6) (nat_lit 0)), (nat_lit 8, AV.sc (Value.int IntKind.i64 ps8)), (nat_lit 9, AV.ptr (nat_lit 9) (nat_lit 0)), (nat_lit 10, AV.sc (Value.int IntKind.i64 ps10)), (nat_lit 39, AV.sc (Value.int IntKind.i64 ps39))], H := [(nat_lit 6, ABlk.box (nat_lit 34) (cellsOf T34 ((0 : Int), (0 : Int), (0 : Int), (0 : Int)))), (nat_lit 9, ABlk.box (nat_lit 65) (cellsOf T65 ph9)), (nat_lit 400000, ABlk.arr (nat_lit 34) T34 o0.2.1), (nat_lit 2000000, ABlk.box (nat_lit 62) [AV.sc (Value.int IntKind.i64 o0.1), AV.own (nat_lit 400000), AV.sc (Value.int IntKind.i64 o0.2.2)])] }
noncomputable def b21_1 (F39 : (El T62) → Int → Option (Int)) (F37 : (El T62) → Int → Option (El T65)) (F32 : (El T32) → Option (El T65)) (F33 : (El T65) → (El T65) → Option (Bool)) (F38 : (Int × (List (El T34) × Int)) → Option (Unit × (Int × (List (El T34) × Int)))) (K : Nat) (a0 : Int) (a1 : Int) (o0 : Int × (List (El T34) × Int)) (r0 : Int → Option ((El T34 × Int) × (Int × (List (El T34) × Int)))) (r1 : Int → Int → Int → (El T65) → Option ((El T34 × Int) × (Int × (List (El T34) × Int)))) (ps8 : Int) (ps10 : Int) (ps39 : Int) (ph9 : El T65) : Option ((El T34 × Int) × (Int × (List (El T34) × Int))) :=(if decide ((0 : Int) ≤ o0.1) = true then (if decide (ps10 < IntKind.i64.wrap ((1 : Int) * (2 : Int) ^ min o0.1.toNat IntKind.i64.bits)) = true then 
    (Option.bind (F32 (ps10, a1)) fun x2 => 
     (Option.bind (F33 ph9 x2) fun x3 => (if (!x3) = true then (if decide ((o0.2.1.length + [(a0, ps8, ps10, a1)].length) * Try.prog.types[(34 : Nat)].bytes ≤ (140737488355328 : Nat)) = true then 
        (Option.bind (F38 (o0.1, o0.2.1 ++ [(a0, ps8, ps10, a1)], o0.2.2)) fun x4 => some ((((a0, ps8, ps10, a1), (0 : Int)), x4.2)))
       else none)
      else (if decide ((0 : Int) ≤ a1) = true then r1 (ps8) (IntKind.i64.wrap (ps10 + IntKind.i64.wrap ((1 : Int) * (2 : Int) ^ min a1.toNat IntKind.i64.bits))) (ps39) (ph9)
       else none))))
   else r0 (IntKind.i64.wrap (ps39 + (1 : Int))))
  else none)
noncomputable def L21_1 (F39 : (El T62) → Int → Option (Int)) (F37 : (El T62) → Int → Option (El T65)) (F32 : (El T32) → Option (El T65)) (F33 : (El T65) → (El T65) → Option (Bool)) (F38 : (Int × (List (El T34) × Int)) → Option (Unit × (Int × (List (El T34) × Int)))) (K : Nat) (a0 : Int) (a1 : Int) (o0 : Int × (List (El T34) × Int)) (r0 : Int → Option ((El T34 × Int) × (Int × (List (El T34) × Int)))) : Nat → Int → Int → Int → (El T65) → Option ((El T34 × Int) × (Int × (List (El T34) × Int)))
  | 0, _, _, _, _ => none
  | n + 1, ps8, ps10, ps39, ph9 => b21_1 F39 F37 F32 F33 F38 K a0 a1 o0 r0 (L21_1 F39 F37 F32 F33 F38 K a0 a1 o0 r0 n) ps8 ps10 ps39 ph9
noncomputable def b21_0 (F39 : (El T62) → Int → Option (Int)) (F37 : (El T62) → Int → Option (El T65)) (F32 : (El T32) → Option (El T65)) (F33 : (El T65) → (El T65) → Option (Bool)) (F38 : (Int × (List (El T34) × Int)) → Option (Unit × (Int × (List (El T34) × Int)))) (K : Nat) (a0 : Int) (a1 : Int) (o0 : Int × (List (El T34) × Int)) (r0 : Int → Option ((El T34 × Int) × (Int × (List (El T34) × Int)))) (l1 : Nat → Int → Int → Int → (El T65) → Option ((El T34 × Int) × (Int × (List (El T34) × Int)))) (ps39 : Int) : Option ((El T34 × Int) × (Int × (List (El T34) × Int))) :=(if decide (ps39 < (16 : Int)) = true then 
   (Option.bind (F37 o0 ps39) fun x1 => l1 K (ps39) ((0 : Int)) (ps39) (x1))
  else some (((((0 : Int), (0 : Int), (0 : Int), (0 : Int)), (5 : Int)), o0)))
noncomputable def L21_0 (F39 : (El T62) → Int → Option (Int)) (F37 : (El T62) → Int → Option (El T65)) (F32 : (El T32) → Option (El T65)) (F33 : (El T65) → (El T65) → Option (Bool)) (F38 : (Int × (List (El T34) × Int)) → Option (Unit × (Int × (List (El T34) × Int)))) (K : Nat) (a0 : Int) (a1 : Int) (o0 : Int × (List (El T34) × Int)) : Nat → Int → Option ((El T34 × Int) × (Int × (List (El T34) × Int)))
  | 0, _ => none
  | n + 1, ps39 => b21_0 F39 F37 F32 F33 F38 K a0 a1 o0 (L21_0 F39 F37 F32 F33 F38 K a0 a1 o0 n) (L21_1 F39 F37 F32 F33 F38 K a0 a1 o0 (L21_0 F39 F37 F32 F33 F38 K a0 a1 o0 n)) ps39
noncomputable def t21 (F39 : (El T62) → Int → Option (Int)) (F37 : (El T62) → Int → Option (El T65)) (F32 : (El T32) → Option (El T65)) (F33 : (El T65) → (El T65) → Option (Bool)) (F38 : (Int × (List (El T34) × Int)) → Option (Unit × (Int × (List (El T34) × Int)))) (K : Nat) (a0 : Int) (a1 : Int) (o0 : Int × (List (El T34) × Int)) (l0 : Nat → Int → Option ((El T34 × Int) × (Int × (List (El T34) × Int)))) : Option ((El T34 × Int) × (Int × (List (El T34) × Int))) := (if (a0 == (0 : Int)) = true then some (((((0 : Int), (0 : Int), (0 : Int), (0 : Int)), (2 : Int)), o0))
 else (if decide (a1 < (0 : Int)) = true then some (((((0 : Int), (0 : Int), (0 : Int), (0 : Int)), (2 : Int)), o0))
  else (if decide (a1 > o0.1) = true then some (((((0 : Int), (0 : Int), (0 : Int), (0 : Int)), (2 : Int)), o0))
   else 
    (Option.bind (F39 o0 a0) fun x0 => (if decide (x0 ≥ (0 : Int)) = true then some (((((0 : Int), (0 : Int), (0 : Int), (0 : Int)), (30 : Int)), o0))
     else l0 K ((0 : Int)))))))
noncomputable def G21 (F39 : (El T62) → Int → Option (Int)) (F37 : (El T62) → Int → Option (El T65)) (F32 : (El T32) → Option (El T65)) (F33 : (El T65) → (El T65) → Option (Bool)) (F38 : (Int × (List (El T34) × Int)) → Option (Unit × (Int × (List (El T34) × Int)))) (K : Nat) (a0 : Int) (a1 : Int) (o0 : Int × (List (El T34) × Int)) : Option ((El T34 × Int) × (Int × (List (El T34) × Int))) := t21 F39 F37 F32 F33 F38 K a0 a1 o0 (L21_0 F39 F37 F32 F33 F38 K a0 a1 o0)
theorem lp21_1 (F39 : (El T62) → Int → Option (Int)) (F37 : (El T62) → Int → Option (El T65)) (F32 : (El T32) → Option (El T65)) (F33 : (El T65) → (El T65) → Option (Bool)) (F38 : (Int × (List (El T34) × Int)) → Option (Unit × (Int × (List (El T34) × Int)))) (K : Nat) (a0 : Int) (a1 : Int) (o0 : Int × (List (El T34) × Int)) : ∀ (m0 : Nat) (n : Nat) (ps8 : Int) (ps10 : Int) (ps39 : Int) (ph9 : El T65), loopN Try.prog (tab21 F39 F37 F32 F33 F38) 0 K Try.f21 la21 gq21.k 1 [m0] n (hd21_1 a0 a1 o0 ps8 ps10 ps39 ph9) = L21_1 F39 F37 F32 F33 F38 K a0 a1 o0 (fun q0 => loopN Try.prog (tab21 F39 F37 F32 F33 F38) 0 K Try.f21 la21 gq21.k 0 [] m0 (hd21_0 a0 a1 o0 q0)) n ps8 ps10 ps39 ph9
  | m0, 0, _, _, _, _ => by kernel_rfl
  | m0, n + 1, ps8, ps10, ps39, ph9 => by
    have h : loopN Try.prog (tab21 F39 F37 F32 F33 F38) 0 K Try.f21 la21 gq21.k 1 [m0] (n + 1) (hd21_1 a0 a1 o0 ps8 ps10 ps39 ph9) = b21_1 F39 F37 F32 F33 F38 K a0 a1 o0 (fun q0 => loopN Try.prog (tab21 F39 F37 F32 F33 F38) 0 K Try.f21 la21 gq21.k 0 [] m0 (hd21_0 a0 a1 o0 q0)) (fun q0 q1 q2 q3 => loopN Try.prog (tab21 F39 F37 F32 F33 F38) 0 K Try.f21 la21 gq21.k 1 [m0] n (hd21_1 a0 a1 o0 q0 q1 q2 q3)) ps8 ps10 ps39 ph9 := by kernel_rfl
    rw [h]
    simp only [lp21_1 F39 F37 F32 F33 F38 K a0 a1 o0 m0 n]
    rfl
theorem lp21_0 (F39 : (El T62) → Int → Option (Int)) (F37 : (El T62) → Int → Option (El T65)) (F32 : (El T32) → Option (El T65)) (F33 : (El T65) → (El T65) → Option (Bool)) (F38 : (Int × (List (El T34) × Int)) → Option (Unit × (Int × (List (El T34) × Int)))) (K : Nat) (a0 : Int) (a1 : Int) (o0 : Int × (List (El T34) × Int)) : ∀ (n : Nat) (ps39 : Int), loopN Try.prog (tab21 F39 F37 F32 F33 F38) 0 K Try.f21 la21 gq21.k 0 [] n (hd21_0 a0 a1 o0 ps39) = L21_0 F39 F37 F32 F33 F38 K a0 a1 o0 n ps39
  | 0, _ => by kernel_rfl
  | n + 1, ps39 => by
    have h : loopN Try.prog (tab21 F39 F37 F32 F33 F38) 0 K Try.f21 la21 gq21.k 0 [] (n + 1) (hd21_0 a0 a1 o0 ps39) = b21_0 F39 F37 F32 F33 F38 K a0 a1 o0 (fun q0 => loopN Try.prog (tab21 F39 F37 F32 F33 F38) 0 K Try.f21 la21 gq21.k 0 [] n (hd21_0 a0 a1 o0 q0)) (fun k q0 q1 q2 q3 => loopN Try.prog (tab21 F39 F37 F32 F33 F38) 0 K Try.f21 la21 gq21.k 1 [n] k (hd21_1 a0 a1 o0 q0 q1 q2 q3)) ps39 := by kernel_rfl
    rw [h]
    simp only [lp21_0 F39 F37 F32 F33 F38 K a0 a1 o0 n, lp21_1 F39 F37 F32 F33 F38 K a0 a1 o0 n]
    rfl
theorem ev21 (F39 : (El T62) → Int → Option (Int)) (F37 : (El T62) → Int → Option (El T65)) (F32 : (El T32) → Option (El T65)) (F33 : (El T65) → (El T65) → Option (Bool)) (F38 : (Int × (List (El T34) × Int)) → Option (Unit × (Int × (List (El T34) × Int)))) (K : Nat) (a0 : Int) (a1 : Int) (o0 : Int × (List (El T34) × Int)) : evFun Try.prog (tab21 F39 F37 F32 F33 F38) 0 K Try.f21 la21 [.ptr 2000000 0, I .u32 a0, I .i64 a1] (hpB ob21 o0) gq21.k = G21 F39 F37 F32 F33 F38 K a0 a1 o0 := by
  have h : evFun Try.prog (tab21 F39 F37 F32 F33 F38) 0 K Try.f21 la21 [.ptr 2000000 0, I .u32 a0, I .i64 a1] (hpB ob21 o0) gq21.k = t21 F39 F37 F32 F33 F38 K a0 a1 o0 (fun k q0 => loopN Try.prog (tab21 F39 F37 F32 F33 F38) 0 K Try.f21 la21 gq21.k 0 [] k (hd21_0 a0 a1 o0 q0)) := by kernel_rfl
  rw [h]
  simp only [lp21_0 F39 F37 F32 F33 F38 K a0 a1 o0]
  rfl
noncomputable def F21 (K : Nat) (a0 : Int) (a1 : Int) (o0 : Int × (List (El T34) × Int)) : Option ((El T34 × Int) × (Int × (List (El T34) × Int))) := G21 (F39 K) (F37 K) (F32 K) (F33 K) (F38 K) K a0 a1 o0
theorem cok21 (K : Nat) : CallOK D Try.prog (tab21 (F39 K) (F37 K) (F32 K) (F33 K) (F38 K)) := (addG_ok (add_ok (add_ok (add_ok (add_ok none_ok ent39 (ok39 K)) ent37 (ok37 K)) ent32 (ok32 K)) ent33 (ok33 K)) ent38 (ok38 K))
theorem ok21 (K : Nat) : RowG D Try.prog 21 (rowG (gad ag21 ob21) gq21 fun p => F21 K p.1.1 p.1.2.1 p.2) := rowG_ok fun x r h => ghas_of (cok21 K) Try.func21 ((ev21 (F39 K) (F37 K) (F32 K) (F33 K) (F38 K) K x.1.1 x.1.2.1 x.2).trans h)
end Go.Proofs.YtlpalhgiiodjoaaE
