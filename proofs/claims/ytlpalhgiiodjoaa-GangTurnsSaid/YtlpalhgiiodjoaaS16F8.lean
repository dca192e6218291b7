import Derived.Test.YtlpalhgiiodjoaaS16F7
set_option linter.all false
namespace Go.Proofs.YtlpalhgiiodjoaaE
open Go Go.Proofs
set_option maxRecDepth 100000
set_option linter.unusedVariables false
variable {D : Prop}
/-! ganger/gangerlaw16.GangTurns -/
noncomputable def tab4 (F10 : (List (El T53)) → Option ((Int × (List (El T34) × Int)) × Unit)) (F11 : (El T62) → Option (List (El T34))) (F14 : (El T62) → Option (Int)) (F17 : (El T62) → Option (Int)) (F12 : (El T62) → Option (List (El (.int .u32)))) (F18 : (Int × (List (El T34) × Int)) → Option (Unit × (Int × (List (El T34) × Int)))) (F13 : (List (El (.int .u32))) → Int → Option (Bool)) (F19 : (List (El T34)) → (List (El T34)) → Option (Bool)) (F16 : Option (Bool)) : Tab := (((((((((Tab.none.addG 10 (rowG (gad ag10 ob10) gq10 fun p => F10 p.1.1)).add 11 (row ad11 dq11 fun p => F11 p)).add 14 (row ad14 dq14 fun p => F14 p)).add 17 (row ad17 dq17 fun p => F17 p)).add 12 (row ad12 dq12 fun p => F12 p)).addG 18 (rowG (gad ag18 ob18) gq18 fun p => F18 p.2)).add 13 (row ad13 dq13 fun p => F13 p.1 p.2)).add 19 (row ad19 dq19 fun p => F19 p.1 p.2)).add 16 (row ad16 dq16 fun p => F16))
noncomputable def la4 : List (List Tidy) := [[.only [3, 4, 5, 6, 7, 8], .pro 7 36 30 (Ty.int IntKind.u32), .ids [11, 15, 17, 19, 36, 41, 51, 54, 56, 59, 64], .top [1000000]], [.only [3, 4, 5, 7, 9], .ids [11, 15, 17, 19, 26, 35, 36, 38, 54, 56, 59, 64], .top [1000001]]]
noncomputable def hd4_0 (a0 : List (El T53)) (ps5 : Int) (ps6 : Int) (ps8 : Int) (ph11_0 : Int) (ph11_2 : Int) (ph15 : List (El T34)) (ph36 : List (Int)) (ph501100 : List (El T34)) : St := { tm := slots (nat_lit 66) [(nat_lit 3, AV.ptr (nat_lit 11) (nat_lit 0)), (nat_lit 4, AV.own (nat_lit 15)), (nat_lit 5, AV.sc (Value.int IntKind.i64 ps5)), (nat_lit 6, AV.sc (Value.int IntKind.i64 ps6)), (nat_lit 7, AV.own (nat_lit 36)), (nat_lit 8, AV.sc (Value.int IntKind.i64 ps8))], H := [(nat_lit 11, ABlk.box (nat_lit 62) [AV.sc (Value.int IntKind.i64 ph11_0), AV.own (nat_lit 501100), AV.sc (Value.int IntKind.i64 ph11_2)]), (nat_lit 15, ABlk.arr (nat_lit 34) T34 ph15), (nat_lit 36, ABlk.arr (nat_lit 30) (Ty.int IntKind.u32) ph36), (nat_lit 501100, ABlk.arr (nat_lit 34) T34 ph501100)] }
noncomputable def hd4_1 (a0 : List (El T53)) (ps5 : Int) (ps9 : Int) (ph11_0 : Int) (ph11_2 : Int) (ph15 : List (El T34)) (ph36 : List (Int)) (ph501100 : List (El T34)) : St := { tm := slots (nat_lit 66) [(nat_lit 3, AV.ptr (nat_lit 11) (nat_lit 0)), (nat_lit 4, AV.own (nat_lit 15)), (nat_lit 5, AV.sc (Value.int IntKind.i64 ps5)), (nat_lit 7, AV.own (nat_lit 36)), (nat_lit 9, AV.sc (Value.int IntKind.i64 ps9))], H := [(nat_lit 11, ABlk.box (nat_lit 62) [AV.sc (Value.int IntKind.i64 ph11_0), AV.own (nat_lit 501100), AV.sc (Value.int IntKind.i64 ph11_2)]), (nat_lit 15, ABlk.arr (nat_lit 34) T34 ph15), (nat_lit 36, ABlk.arr (nat_lit 30) (Ty.int IntKind.u32) ph36), (nat_lit 501100, ABlk.arr (nat_lit 34) T34 ph501100)] }
noncomputable def b4_1 (F10 : (List (El T53)) → Option ((Int × (List (El T34) × Int)) × Unit)) (F11 : (El T62) → Option (List (El T34))) (F14 : (El T62) → Option (Int)) (F17 : (El T62) → Option (Int)) (F12 : (El T62) → Option (List (El (.int .u32)))) (F18 : (Int × (List (El T34) × Int)) → Option (Unit × (Int × (List (El T34) × Int)))) (F13 : (List (El (.int .u32))) → Int → Option (Bool)) (F19 : (List (El T34)) → (List (El T34)) → Option (Bool)) (F16 : Option (Bool)) (K : Nat) (a0 : List (El T53)) (r1 : Int → Int → Int → Int → (List (El T34)) → (List (Int)) → (List (El T34)) → Option (Bool)) (ps5 : Int) (ps9 : Int) (ph11_0 : Int) (ph11_2 : Int) (ph15 : List (El T34)) (ph36 : List (Int)) (ph501100 : List (El T34)) : Option (Bool) :=(if decide (ps9 < (↑ph15.length : Int)) = true then (if decide ((0 : Int) ≤ ps9 ∧ ps9 < (↑ph15.length : Int)) = true then 
    (Option.bind (F13 ph36 (ph15.getD ps9.toNat (zEl T34)).1) fun x7 => (if (!x7) = true then some (false)
     else r1 (ps5) (IntKind.i64.wrap (ps9 + (1 : Int))) (ph11_0) (ph11_2) (ph15) (ph36) (ph501100)))
   else none)
  else 
   (Option.bind (F11 (ph11_0, ph501100, ph11_2)) fun x8 => 
    (Option.bind (F19 x8 ph15) fun x9 => (if x9 = true then 
      (Option.bind (F14 (ph11_0, ph501100, ph11_2)) fun x10 => (if (x10 == ps5) = true then 
        (Option.bind (F16) fun x11 => some (x11))
       else some (false)))
     else some (false)))))
noncomputable def L4_1 (F10 : (List (El T53)) → Option ((Int × (List (El T34) × Int)) × Unit)) (F11 : (El T62) → Option (List (El T34))) (F14 : (El T62) → Option (Int)) (F17 : (El T62) → Option (Int)) (F12 : (El T62) → Option (List (El (.int .u32)))) (F18 : (Int × (List (El T34) × Int)) → Option (Unit × (Int × (List (El T34) × Int)))) (F13 : (List (El (.int .u32))) → Int → Option (Bool)) (F19 : (List (El T34)) → (List (El T34)) → Option (Bool)) (F16 : Option (Bool)) (K : Nat) (a0 : List (El T53)) : Nat → Int → Int → Int → Int → (List (El T34)) → (List (Int)) → (List (El T34)) → Option (Bool)
  | 0, _, _, _, _, _, _, _ => none
  | n + 1, ps5, ps9, ph11_0, ph11_2, ph15, ph36, ph501100 => b4_1 F10 F11 F14 F17 F12 F18 F13 F19 F16 K a0 (L4_1 F10 F11 F14 F17 F12 F18 F13 F19 F16 K a0 n) ps5 ps9 ph11_0 ph11_2 ph15 ph36 ph501100
noncomputable def b4_0 (F10 : (List (El T53)) → Option ((Int × (List (El T34) × Int)) × Unit)) (F11 : (El T62) → Option (List (El T34))) (F14 : (El T62) → Option (Int)) (F17 : (El T62) → Option (Int)) (F12 : (El T62) → Option (List (El (.int .u32)))) (F18 : (Int × (List (El T34) × Int)) → Option (Unit × (Int × (List (El T34) × Int)))) (F13 : (List (El (.int .u32))) → Int → Option (Bool)) (F19 : (List (El T34)) → (List (El T34)) → Option (Bool)) (F16 : Option (Bool)) (K : Nat) (a0 : List (El T53)) (r0 : Int → Int → Int → Int → Int → (List (El T34)) → (List (Int)) → (List (El T34)) → Option (Bool)) (l1 : Nat → Int → Int → Int → Int → (List (El T34)) → (List (Int)) → (List (El T34)) → Option (Bool)) (ps5 : Int) (ps6 : Int) (ps8 : Int) (ph11_0 : Int) (ph11_2 : Int) (ph15 : List (El T34)) (ph36 : List (Int)) (ph501100 : List (El T34)) : Option (Bool) :=(if decide (ps8 < ps6) = true then 
   (Option.bind (F14 (ph11_0, ph501100, ph11_2)) fun x4 => (if (!ps6 == (0 : Int)) = true then (if (x4 != (IntKind.i64.wrap (ps5 + ps8)).tmod ps6) = true then some (false)
     else 
      (Option.bind (F12 (ph11_0, ph501100, ph11_2)) fun x5 => (if decide ((ph36.length + List.length x5) * Try.prog.types[(30 : Nat)].bytes ≤ (140737488355328 : Nat)) = true then 
        (Option.bind (F18 (ph11_0, ph501100, ph11_2)) fun x6 => r0 (ps5) (ps6) (IntKind.i64.wrap (ps8 + (1 : Int))) (x6.2.1) (x6.2.2.2) (ph15) (ph36 ++ x5) (x6.2.2.1))
       else none)))
    else none))
  else l1 K (ps5) ((0 : Int)) (ph11_0) (ph11_2) (ph15) (ph36) (ph501100))
noncomputable def L4_0 (F10 : (List (El T53)) → Option ((Int × (List (El T34) × Int)) × Unit)) (F11 : (El T62) → Option (List (El T34))) (F14 : (El T62) → Option (Int)) (F17 : (El T62) → Option (Int)) (F12 : (El T62) → Option (List (El (.int .u32)))) (F18 : (Int × (List (El T34) × Int)) → Option (Unit × (Int × (List (El T34) × Int)))) (F13 : (List (El (.int .u32))) → Int → Option (Bool)) (F19 : (List (El T34)) → (List (El T34)) → Option (Bool)) (F16 : Option (Bool)) (K : Nat) (a0 : List (El T53)) : Nat → Int → Int → Int → Int → Int → (List (El T34)) → (List (Int)) → (List (El T34)) → Option (Bool)
  | 0, _, _, _, _, _, _, _, _ => none
  | n + 1, ps5, ps6, ps8, ph11_0, ph11_2, ph15, ph36, ph501100 => b4_0 F10 F11 F14 F17 F12 F18 F13 F19 F16 K a0 (L4_0 F10 F11 F14 F17 F12 F18 F13 F19 F16 K a0 n) (L4_1 F10 F11 F14 F17 F12 F18 F13 F19 F16 K a0) ps5 ps6 ps8 ph11_0 ph11_2 ph15 ph36 ph501100
noncomputable def t4 (F10 : (List (El T53)) → Option ((Int × (List (El T34) × Int)) × Unit)) (F11 : (El T62) → Option (List (El T34))) (F14 : (El T62) → Option (Int)) (F17 : (El T62) → Option (Int)) (F12 : (El T62) → Option (List (El (.int .u32)))) (F18 : (Int × (List (El T34) × Int)) → Option (Unit × (Int × (List (El T34) × Int)))) (F13 : (List (El (.int .u32))) → Int → Option (Bool)) (F19 : (List (El T34)) → (List (El T34)) → Option (Bool)) (F16 : Option (Bool)) (K : Nat) (a0 : List (El T53)) (l0 : Nat → Int → Int → Int → Int → Int → (List (El T34)) → (List (Int)) → (List (El T34)) → Option (Bool)) : Option (Bool) := 
 (Option.bind (F10 a0) fun x0 => 
  (Option.bind (F11 x0.1) fun x1 => 
   (Option.bind (F14 x0.1) fun x2 => 
    (Option.bind (F17 x0.1) fun x3 => l0 K (x2) (x3) ((0 : Int)) (x0.1.1) (x0.1.2.2) (x1) ([]) (x0.1.2.1)))))
noncomputable def G4 (F10 : (List (El T53)) → Option ((Int × (List (El T34) × Int)) × Unit)) (F11 : (El T62) → Option (List (El T34))) (F14 : (El T62) → Option (Int)) (F17 : (El T62) → Option (Int)) (F12 : (El T62) → Option (List (El (.int .u32)))) (F18 : (Int × (List (El T34) × Int)) → Option (Unit × (Int × (List (El T34) × Int)))) (F13 : (List (El (.int .u32))) → Int → Option (Bool)) (F19 : (List (El T34)) → (List (El T34)) → Option (Bool)) (F16 : Option (Bool)) (K : Nat) (a0 : List (El T53)) : Option (Bool) := t4 F10 F11 F14 F17 F12 F18 F13 F19 F16 K a0 (L4_0 F10 F11 F14 F17 F12 F18 F13 F19 F16 K a0)
theorem lp4_1 (F10 : (List (El T53)) → Option ((Int × (List (El T34) × Int)) × Unit)) (F11 : (El T62) → Option (List (El T34))) (F14 : (El T62) → Option (Int)) (F17 : (El T62) → Option (Int)) (F12 : (El T62) → Option (List (El (.int .u32)))) (F18 : (Int × (List (El T34) × Int)) → Option (Unit × (Int × (List (El T34) × Int)))) (F13 : (List (El (.int .u32))) → Int → Option (Bool)) (F19 : (List (El T34)) → (List (El T34)) → Option (Bool)) (F16 : Option (Bool)) (K : Nat) (a0 : List (El T53)) : ∀ (n : Nat) (ps5 : Int) (ps9 : Int) (ph11_0 : Int) (ph11_2 : Int) (ph15 : List (El T34)) (ph36 : List (Int)) (ph501100 : List (El T34)), loopN Try.prog (tab4 F10 F11 F14 F17 F12 F18 F13 F19 F16) 0 K Try.f4 la4 dq4.k 1 [] n (hd4_1 a0 ps5 ps9 ph11_0 ph11_2 ph15 ph36 ph501100) = L4_1 F10 F11 F14 F17 F12 F18 F13 F19 F16 K a0 n ps5 ps9 ph11_0 ph11_2 ph15 ph36 ph501100
  | 0, _, _, _, _, _, _, _ => by kernel_rfl
  | n + 1, ps5, ps9, ph11_0, ph11_2, ph15, ph36, ph501100 => by
    have h : loopN Try.prog (tab4 F10 F11 F14 F17 F12 F18 F13 F19 F16) 0 K Try.f4 la4 dq4.k 1 [] (n + 1) (hd4_1 a0 ps5 ps9 ph11_0 ph11_2 ph15 ph36 ph501100) = b4_1 F10 F11 F14 F17 F12 F18 F13 F19 F16 K a0 (fun q0 q1 q2 q3 q4 q5 q6 => loopN Try.prog (tab4 F10 F11 F14 F17 F12 F18 F13 F19 F16) 0 K Try.f4 la4 dq4.k 1 [] n (hd4_1 a0 q0 q1 q2 q3 q4 q5 q6)) ps5 ps9 ph11_0 ph11_2 ph15 ph36 ph501100 := by kernel_rfl
    rw [h]
    simp only [lp4_1 F10 F11 F14 F17 F12 F18 F13 F19 F16 K a0 n]
    rfl
theorem lp4_0 (F10 : (List (El T53)) → Option ((Int × (List (El T34) × Int)) × Unit)) (F11 : (El T62) → Option (List (El T34))) (F14 : (El T62) → Option (Int)) (F17 : (El T62) → Option (Int)) (F12 : (El T62) → Option (List (El (.int .u32)))) (F18 : (Int × (List (El T34) × Int)) → Option (Unit × (Int × (List (El T34) × Int)))) (F13 : (List (El (.int .u32))) → Int → Option (Bool)) (F19 : (List (El T34)) → (List (El T34)) → Option (Bool)) (F16 : Option (Bool)) (K : Nat) (a0 : List (El T53)) : ∀ (n : Nat) (ps5 : Int) (ps6 : Int) (ps8 : Int) (ph11_0 : Int) (ph11_2 : Int) (ph15 : List (El T34)) (ph36 : List (Int)) (ph501100 : List (El T34)), loopN Try.prog (tab4 F10 F11 F14 F17 F12 F18 F13 F19 F16) 0 K Try.f4 la4 dq4.k 0 [] n (hd4_0 a0 ps5 ps6 ps8 ph11_0 ph11_2 ph15 ph36 ph501100) = L4_0 F10 F11 F14 F17 F12 F18 F13 F19 F16 K a0 n ps5 ps6 ps8 ph11_0 ph11_2 ph15 ph36 ph501100
  | 0, _, _, _, _, _, _, _, _ => by kernel_rfl
  | n + 1, ps5, ps6, ps8, ph11_0, ph11_2, ph15, ph36, ph501100 => by
    have h : loopN Try.prog (tab4 F10 F11 F14 F17 F12 F18 F13 F19 F16) 0 K Try.f4 la4 dq4.k 0 [] (n + 1) (hd4_0 a0 ps5 ps6 ps8 ph11_0 ph11_2 ph15 ph36 ph501100) = b4_0 F10 F11 F14 F17 F12 F18 F13 F19 F16 K a0 (fun q0 q1 q2 q3 q4 q5 q6 q7 => loopN Try.prog (tab4 F10 F11 F14 F17 F12 F18 F13 F19 F16) 0 K Try.f4 la4 dq4.k 0 [] n (hd4_0 a0 q0 q1 q2 q3 q4 q5 q6 q7)) (fun k q0 q1 q2 q3 q4 q5 q6 => loopN Try.prog (tab4 F10 F11 F14 F17 F12 F18 F13 F19 F16) 0 K Try.f4 la4 dq4.k 1 [] k (hd4_1 a0 q0 q1 q2 q3 q4 q5 q6)) ps5 ps6 ps8 ph11_0 ph11_2 ph15 ph36 ph501100 := by kernel_rfl
    rw [h]
    simp only [lp4_0 F10 F11 F14 F17 F12 F18 F13 F19 F16 K a0 n, lp4_1 F10 F11 F14 F17 F12 F18 F13 F19 F16 K a0]
    rfl
theorem ev4 (F10 : (List (El T53)) → Option ((Int × (List (El T34) × Int)) × Unit)) (F11 : (El T62) → Option (List (El T34))) (F14 : (El T62) → Option (Int)) (F17 : (El T62) → Option (Int)) (F12 : (El T62) → Option (List (El (.int .u32)))) (F18 : (Int × (List (El T34) × Int)) → Option (Unit × (Int × (List (El T34) × Int)))) (F13 : (List (El (.int .u32))) → Int → Option (Bool)) (F19 : (List (El T34)) → (List (El T34)) → Option (Bool)) (F16 : Option (Bool)) (K : Nat) (a0 : List (El T53)) : evFun Try.prog (tab4 F10 F11 F14 F17 F12 F18 F13 F19 F16) 0 K Try.f4 la4 [.row T53 a0] [] dq4.k = G4 F10 F11 F14 F17 F12 F18 F13 F19 F16 K a0 := by
  have h : evFun Try.prog (tab4 F10 F11 F14 F17 F12 F18 F13 F19 F16) 0 K Try.f4 la4 [.row T53 a0] [] dq4.k = t4 F10 F11 F14 F17 F12 F18 F13 F19 F16 K a0 (fun k q0 q1 q2 q3 q4 q5 q6 q7 => loopN Try.prog (tab4 F10 F11 F14 F17 F12 F18 F13 F19 F16) 0 K Try.f4 la4 dq4.k 0 [] k (hd4_0 a0 q0 q1 q2 q3 q4 q5 q6 q7)) := by kernel_rfl
  rw [h]
  simp only [lp4_0 F10 F11 F14 F17 F12 F18 F13 F19 F16 K a0]
  rfl
noncomputable def F4 (K : Nat) (a0 : List (El T53)) : Option (Bool) := G4 (F10 K) (F11 K) (F14 K) (F17 K) (F12 K) (F18 K) (F13 K) (F19 K) (F16 K) K a0
theorem cok4 (K : Nat) : CallOK D Try.prog (tab4 (F10 K) (F11 K) (F14 K) (F17 K) (F12 K) (F18 K) (F13 K) (F19 K) (F16 K)) := (add_ok (add_ok (add_ok (addG_ok (add_ok (add_ok (add_ok (add_ok (addG_ok none_ok ent10 (ok10 K)) ent11 (ok11 K)) ent14 (ok14 K)) ent17 (ok17 K)) ent12 (ok12 K)) ent18 (ok18 K)) ent13 (ok13 K)) ent19 (ok19 K)) ent16 (ok16 K))
theorem ok4 (K : Nat) : RowOK D Try.prog 4 (row ad4 dq4 fun p => F4 K p) := row_ok fun x r h => has_of (cok4 K) Try.func4 ((ev4 (F10 K) (F11 K) (F14 K) (F17 K) (F12 K) (F18 K) (F13 K) (F19 K) (F16 K) K x).trans h)
/-! (*ganger/gang.Matrix).Place -/
noncomputable def tab1021 (F39 : (El T62) → Int → Option (Int)) (F37 : (El T62) → Int → Option (El T65)) (F32 : (El T32) → Option (El T65)) (F33 : (El T65) → (El T65) → Option (Bool)) (F38 : (Int × (List (El T34) × Int)) → Option (Unit × (Int × (List (El T34) × Int)))) : Tab := (((((Tab.none.add 39 (row ad39 dq39 fun p => F39 p.1 p.2)).add 37 (row ad37 dq37 fun p => F37 p.1 p.2)).add 32 (row ad32 dq32 fun p => F32 p)).add 33 (row ad33 dq33 fun p => F33 p.1 p.2)).addG 38 (rowG (gad ag38 ob38) gq38 fun p => F38 p.2))
noncomputable def t1021 (F39 : (El T62) → Int → Option (Int)) (F37 : (El T62) → Int → Option (El T65)) (F32 : (El T32) → Option (El T65)) (F33 : (El T65) → (El T65) → Option (Bool)) (F38 : (Int × (List (El T34) × Int)) → Option (Unit × (Int × (List (El T34) × Int)))) (K : Nat) (a0 : Unit) (a1 : Int) (a2 : Int) : Option ((El T34) × Int) := some ((((0 : Int), (0 : Int), (0 : Int), (0 : Int)), (1 : Int)))
noncomputable def G1021 (F39 : (El T62) → Int → Option (Int)) (F37 : (El T62) → Int → Option (El T65)) (F32 : (El T32) → Option (El T65)) (F33 : (El T65) → (El T65) → Option (Bool)) (F38 : (Int × (List (El T34) × Int)) → Option (Unit × (Int × (List (El T34) × Int)))) (K : Nat) (a0 : Unit) (a1 : Int) (a2 : Int) : Option ((El T34) × Int) := t1021 F39 F37 F32 F33 F38 K a0 a1 a2
theorem ev1021 (F39 : (El T62) → Int → Option (Int)) (F37 : (El T62) → Int → Option (El T65)) (F32 : (El T32) → Option (El T65)) (F33 : (El T65) → (El T65) → Option (Bool)) (F38 : (Int × (List (El T34) × Int)) → Option (Unit × (Int × (List (El T34) × Int)))) (K : Nat) (a0 : Unit) (a1 : Int) (a2 : Int) : evFun Try.prog (tab1021 F39 F37 F32 F33 F38) 0 K Try.f21 ([[.only [0, 1, 2, 6, 39], .ids [6, 36], .top [1000000]], [.only [0, 1, 2, 6, 8, 9, 10, 39], .ids [6, 9, 36, 44], .top [1000001]]] : List (List Tidy)) [.sc (.pointer none), I .u32 a1, I .i64 a2] [] dq1021.k = G1021 F39 F37 F32 F33 F38 K a0 a1 a2 := by
  kernel_rfl
noncomputable def F1021 (K : Nat) (a0 : Unit) (a1 : Int) (a2 : Int) : Option ((El T34) × Int) := G1021 (F39 K) (F37 K) (F32 K) (F33 K) (F38 K) K a0 a1 a2
theorem cok1021 (K : Nat) : CallOK D Try.prog (tab1021 (F39 K) (F37 K) (F32 K) (F33 K) (F38 K)) := (addG_ok (add_ok (add_ok (add_ok (add_ok none_ok ent39 (ok39 K)) ent37 (ok37 K)) ent32 (ok32 K)) ent33 (ok33 K)) ent38 (ok38 K))
theorem ok1021 (K : Nat) : RowOK D Try.prog 21 (row ad1021 dq1021 fun p => F1021 K p.1 p.2.1 p.2.2) := row_ok fun x r h => has_of (cok1021 K) Try.func21 ((ev1021 (F39 K) (F37 K) (F32 K) (F33 K) (F38 K) K x.1 x.2.1 x.2.2).trans h)
/-! (*ganger/gang.Matrix).Turn -/
noncomputable def tab1018 (F17 : (El T62) → Option (Int)) : Tab := (Tab.none.add 17 (row ad17 dq17 fun p => F17 p))
noncomputable def t1018 (F17 : (El T62) → Option (Int)) (K : Nat) (a0 : Unit) : Option (Unit) := some (())
noncomputable def G1018 (F17 : (El T62) → Option (Int)) (K : Nat) (a0 : Unit) : Option (Unit) := t1018 F17 K a0
theorem ev1018 (F17 : (El T62) → Option (Int)) (K : Nat) (a0 : Unit) : evFun Try.prog (tab1018 F17) 0 K Try.f18 [] [.sc (.pointer none)] [] dq1018.k = G1018 F17 K a0 := by
  kernel_rfl
noncomputable def F1018 (K : Nat) (a0 : Unit) : Option (Unit) := G1018 (F17 K) K a0
theorem cok1018 (K : Nat) : CallOK D Try.prog (tab1018 (F17 K)) := (add_ok none_ok ent17 (ok17 K))
theorem ok1018 (K : Nat) : RowOK D Try.prog 18 (row ad1018 dq1018 fun p => F1018 K p) := row_ok fun x r h => has_of (cok1018 K) Try.func18 ((ev1018 (F17 K) K x).trans h)
/-! (*ganger/gang.Matrix).Remove -/
noncomputable def tab1022 (F39 : (El T62) → Int → Option (Int)) (F40 : (Int × Int) → List (El T34) → Option (List (El T34))) (F17 : (El T62) → Option (Int)) : Tab := (((Tab.none.add 39 (row ad39 dq39 fun p => F39 p.1 p.2)).addW 40 (rowW T34 ad40 F40 true)).add 17 (row ad17 dq17 fun p => F17 p))
noncomputable def t1022 (F39 : (El T62) → Int → Option (Int)) (F40 : (Int × Int) → List (El T34) → Option (List (El T34))) (F17 : (El T62) → Option (Int)) (K : Nat) (a0 : Unit) (a1 : Int) : Option (Int) := some ((1 : Int))
noncomputable def G1022 (F39 : (El T62) → Int → Option (Int)) (F40 : (Int × Int) → List (El T34) → Option (List (El T34))) (F17 : (El T62) → Option (Int)) (K : Nat) (a0 : Unit) (a1 : Int) : Option (Int) := t1022 F39 F40 F17 K a0 a1
theorem ev1022 (F39 : (El T62) → Int → Option (Int)) (F40 : (Int × Int) → List (El T34) → Option (List (El T34))) (F17 : (El T62) → Option (Int)) (K : Nat) (a0 : Unit) (a1 : Int) : evFun Try.prog (tab1022 F39 F40 F17) 0 K Try.f22 [] [.sc (.pointer none), I .u32 a1] [] dq1022.k = G1022 F39 F40 F17 K a0 a1 := by
  kernel_rfl
noncomputable def F1022 (K : Nat) (a0 : Unit) (a1 : Int) : Option (Int) := G1022 (F39 K) (F40 K) (F17 K) K a0 a1
theorem cok1022 (K : Nat) : CallOK D Try.prog (tab1022 (F39 K) (F40 K) (F17 K)) := (add_ok (addW_ok (add_ok none_ok ent39 (ok39 K)) ent40 (ok40 K)) ent17 (ok17 K))
theorem ok1022 (K : Nat) : RowOK D Try.prog 22 (row ad1022 dq1022 fun p => F1022 K p.1 p.2) := row_ok fun x r h => has_of (cok1022 K) Try.func22 ((ev1022 (F39 K) (F40 K) (F17 K) K x.1 x.2).trans h)
/-! (*ganger/gang.Matrix).Unify -/
noncomputable def tab1020 (F37 : (El T62) → Int → Option (El T65)) (F32 : (El T32) → Option (El T65)) (F33 : (El T65) → (El T65) → Option (Bool)) (F38 : (Int × (List (El T34) × Int)) → Option (Unit × (Int × (List (El T34) × Int)))) : Tab := ((((Tab.none.add 37 (row ad37 dq37 fun p => F37 p.1 p.2)).add 32 (row ad32 dq32 fun p => F32 p)).add 33 (row ad33 dq33 fun p => F33 p.1 p.2)).addG 38 (rowG (gad ag38 ob38) gq38 fun p => F38 p.2))
noncomputable def t1020 (F37 : (El T62) → Int → Option (El T65)) (F32 : (El T32) → Option (El T65)) (F33 : (El T65) → (El T65) → Option (Bool)) (F38 : (Int × (List (El T34) × Int)) → Option (Unit × (Int × (List (El T34) × Int)))) (K : Nat) (a0 : Unit) : Option (Int) := some ((0 : Int))
noncomputable def G1020 (F37 : (El T62) → Int → Option (El T65)) (F32 : (El T32) → Option (El T65)) (F33 : (El T65) → (El T65) → Option (Bool)) (F38 : (Int × (List (El T34) × Int)) → Option (Unit × (Int × (List (El T34) × Int)))) (K : Nat) (a0 : Unit) : Option (Int) := t1020 F37 F32 F33 F38 K a0
theorem ev1020 (F37 : (El T62) → Int → Option (El T65)) (F32 : (El T32) → Option (El T65)) (F33 : (El T65) → (El T65) → Option (Bool)) (F38 : (Int × (List (El T34) × Int)) → Option (Unit × (Int × (List (El T34) × Int)))) (K : Nat) (a0 : Unit) : evFun Try.prog (tab1020 F37 F32 F33 F38) 0 K Try.f20 ([[.only [0, 3, 17, 18, 19], .ids [11, 18, 50, 55], .top [1000000]], [.only [0, 3, 4, 5, 17, 18, 19, 25, 26], .ids [5, 11, 18, 50, 55], .top [1000001]], [.only [0, 3, 7, 8, 9, 54, 55, 56], .ids [5, 18, 31, 34, 35, 50, 55], .top [1000002]]] : List (List Tidy)) [.sc (.pointer none)] [] dq1020.k = G1020 F37 F32 F33 F38 K a0 := by
  kernel_rfl
noncomputable def F1020 (K : Nat) (a0 : Unit) : Option (Int) := G1020 (F37 K) (F32 K) (F33 K) (F38 K) K a0
theorem cok1020 (K : Nat) : CallOK D Try.prog (tab1020 (F37 K) (F32 K) (F33 K) (F38 K)) := (addG_ok (add_ok (add_ok (add_ok none_ok ent37 (ok37 K)) ent32 (ok32 K)) ent33 (ok33 K)) ent38 (ok38 K))
theorem ok1020 (K : Nat) : RowOK D Try.prog 20 (row ad1020 dq1020 fun p => F1020 K p) := row_ok fun x r h => has_of (cok1020 K) Try.func20 ((ev1020 (F37 K) (F32 K) (F33 K) (F38 K) K x).trans h)
/-! (*ganger/gang.Matrix).Active -/
noncomputable def tab1014 : Tab := Tab.none
noncomputable def t1014 (K : Nat) (a0 : Unit) : Option (Int) := some ((0 : Int))
noncomputable def G1014 (K : Nat) (a0 : Unit) : Option (Int) := t1014 K a0
theorem ev1014 (K : Nat) (a0 : Unit) : evFun Try.prog (tab1014) 0 K Try.f14 [] [.sc (.pointer none)] [] dq1014.k = G1014 K a0 := by
  kernel_rfl
noncomputable def F1014 (K : Nat) (a0 : Unit) : Option (Int) := G1014 K a0
theorem cok1014 (K : Nat) : CallOK D Try.prog (tab1014) := none_ok
theorem ok1014 (K : Nat) : RowOK D Try.prog 14 (row ad1014 dq1014 fun p => F1014 K p) := row_ok fun x r h => has_of (cok1014 K) Try.func14 ((ev1014 K x).trans h)
/-! (*ganger/gang.Matrix).Rows -/
noncomputable def tab1017 : Tab := Tab.none
noncomputable def t1017 (K : Nat) (a0 : Unit) : Option (Int) := some ((0 : Int))
noncomputable def G1017 (K : Nat) (a0 : Unit) : Option (Int) := t1017 K a0
theorem ev1017 (K : Nat) (a0 : Unit) : evFun Try.prog (tab1017) 0 K Try.f17 [] [.sc (.pointer none)] [] dq1017.k = G1017 K a0 := by
  kernel_rfl
noncomputable def F1017 (K : Nat) (a0 : Unit) : Option (Int) := G1017 K a0
theorem cok1017 (K : Nat) : CallOK D Try.prog (tab1017) := none_ok
theorem ok1017 (K : Nat) : RowOK D Try.prog 17 (row ad1017 dq1017 fun p => F1017 K p) := row_ok fun x r h => has_of (cok1017 K) Try.func17 ((ev1017 K x).trans h)
/-! (*ganger/gang.Matrix).Cells -/
noncomputable def tab1011 (F31 : (List (El T34)) → Option (List (El T34))) : Tab := (Tab.none.add 31 (row ad31 dq31 fun p => F31 p))
noncomputable def t1011 (F31 : (List (El T34)) → Option (List (El T34))) (K : Nat) (a0 : Unit) : Option (List (El T34)) := some ([])
noncomputable def G1011 (F31 : (List (El T34)) → Option (List (El T34))) (K : Nat) (a0 : Unit) : Option (List (El T34)) := t1011 F31 K a0
theorem ev1011 (F31 : (List (El T34)) → Option (List (El T34))) (K : Nat) (a0 : Unit) : evFun Try.prog (tab1011 F31) 0 K Try.f11 [] [.sc (.pointer none)] [] dq1011.k = G1011 F31 K a0 := by
  kernel_rfl
noncomputable def F1011 (K : Nat) (a0 : Unit) : Option (List (El T34)) := G1011 (F31 K) K a0
theorem cok1011 (K : Nat) : CallOK D Try.prog (tab1011 (F31 K)) := (add_ok none_ok ent31 (ok31 K))
theorem ok1011 (K : Nat) : RowOK D Try.prog 11 (row ad1011 dq1011 fun p => F1011 K p) := row_ok fun x r h => has_of (cok1011 K) Try.func11 ((ev1011 (F31 K) K x).trans h)
end Go.Proofs.YtlpalhgiiodjoaaE
