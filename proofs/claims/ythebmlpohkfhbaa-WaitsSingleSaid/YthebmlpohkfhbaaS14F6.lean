import Derived.Test.YthebmlpohkfhbaaS14F5
set_option linter.all false
namespace Go.Proofs.YthebmlpohkfhbaaE
open Go Go.Proofs
set_option maxRecDepth 100000
set_option linter.unusedVariables false
/-! ganger/waits.Room -/
noncomputable def tab26 (F31 : (List (El T45)) → Int → Option ((El T45) × Bool)) (F36 : (List (El T45)) → (El T45) → Option (Bool)) : Tab := ((Tab.none.add 31 (row ad31 dq31 fun p => F31 p.1 p.2)).add 36 (row ad36 dq36 fun p => F36 p.1 p.2))
noncomputable def t26 (F31 : (List (El T45)) → Int → Option ((El T45) × Bool)) (F36 : (List (El T45)) → (El T45) → Option (Bool)) (K : Nat) (a0 : List (El T45)) (a1 : Int) : Option (Bool) := 
 (Option.bind (F31 a0 a1) fun x0 => (if x0.2 = true then 
   (Option.bind (F36 a0 x0.1) fun x1 => some (x1))
  else some (false)))
noncomputable def G26 (F31 : (List (El T45)) → Int → Option ((El T45) × Bool)) (F36 : (List (El T45)) → (El T45) → Option (Bool)) (K : Nat) (a0 : List (El T45)) (a1 : Int) : Option (Bool) := t26 F31 F36 K a0 a1
theorem ev26 (F31 : (List (El T45)) → Int → Option ((El T45) × Bool)) (F36 : (List (El T45)) → (El T45) → Option (Bool)) (K : Nat) (a0 : List (El T45)) (a1 : Int) : evFun Try.prog (tab26 F31 F36) 0 K Try.f26 [] [.row T45 a0, I .u32 a1] [] dq26.k = G26 F31 F36 K a0 a1 := by
  kernel_rfl
noncomputable def F26 (K : Nat) (a0 : List (El T45)) (a1 : Int) : Option (Bool) := G26 (F31 K) (F36 K) K a0 a1
theorem cok26 (K : Nat) : CallOK Try.prog (tab26 (F31 K) (F36 K)) := (add_ok (add_ok none_ok ent31 (ok31 K)) ent36 (ok36 K))
theorem ok26 (K : Nat) : RowOK Try.prog 26 (row ad26 dq26 fun p => F26 K p.1 p.2) := row_ok fun x r h => has_of (cok26 K) Try.func26 ((ev26 (F31 K) (F36 K) K x.1 x.2).trans h)
/-! ganger/gangerlaw14.like -/
noncomputable def tab17 (F30 : (El T39) → (El T39) → Option (Bool)) : Tab := (Tab.none.add 30 (row ad30 dq30 fun p => F30 p.1 p.2))
noncomputable def t17 (F30 : (El T39) → (El T39) → Option (Bool)) (K : Nat) (a0 : El T45) (a1 : El T45) : Option (Bool) := (if (ByteArray.toList a0.2.2.2.1.1 == ByteArray.toList a1.2.2.2.1.1) = true then (if (ByteArray.toList a0.2.2.2.1.2.1 == ByteArray.toList a1.2.2.2.1.2.1) = true then 
   (Option.bind (F30 a0.2.2.2.1.2.2.2.2.2.2.2.1 (false, [((5 : Int), [])])) fun x0 => (if x0 = true then 
     (Option.bind (F30 a1.2.2.2.1.2.2.2.2.2.2.2.1 (false, [((5 : Int), [])])) fun x1 => some (x1))
    else some (false)))
  else some (false))
 else some (false))
noncomputable def G17 (F30 : (El T39) → (El T39) → Option (Bool)) (K : Nat) (a0 : El T45) (a1 : El T45) : Option (Bool) := t17 F30 K a0 a1
theorem ev17 (F30 : (El T39) → (El T39) → Option (Bool)) (K : Nat) (a0 : El T45) (a1 : El T45) : evFun Try.prog (tab17 F30) 0 K Try.f17 [] [.agg (cellsOf T45 a0), .agg (cellsOf T45 a1)] [] dq17.k = G17 F30 K a0 a1 := by
  kernel_rfl
noncomputable def F17 (K : Nat) (a0 : El T45) (a1 : El T45) : Option (Bool) := G17 (F30 K) K a0 a1
theorem cok17 (K : Nat) : CallOK Try.prog (tab17 (F30 K)) := (add_ok none_ok ent30 (ok30 K))
theorem ok17 (K : Nat) : RowOK Try.prog 17 (row ad17 dq17 fun p => F17 K p.1 p.2) := row_ok fun x r h => has_of (cok17 K) Try.func17 ((ev17 (F30 K) K x.1 x.2).trans h)
/-! ganger/gangerlaw14.job -/
noncomputable def tab18 : Tab := Tab.none
noncomputable def t18 (K : Nat) (a0 : Int) (a1 : Int) (a2 : Int) (a3 : Int) : Option (El T45) := (if decide (a2 > (0 : Int)) = true then some ((a0, (0 : Int), (-1 : Int), ({ data := #[(110 : UInt8)] } ++ ByteArray.empty.push (UInt8.ofNat (IntKind.u8.wrap a0).toNat), { data := #[(97 : UInt8)] }, { data := #[] }, { data := #[] }, (0 : Int), (0 : Int), ([], (0 : Int)), (false, [(a2, [a3])]), (0 : Int), (0 : Int), false, false, { data := #[] }), (0 : Int), a1, (0 : Int), (0 : Int), (0 : Int), (0 : Int), (0 : Int), (0 : Int)))
 else some ((a0, (0 : Int), (-1 : Int), ({ data := #[(110 : UInt8)] } ++ ByteArray.empty.push (UInt8.ofNat (IntKind.u8.wrap a0).toNat), { data := #[(97 : UInt8)] }, { data := #[] }, { data := #[] }, (0 : Int), (0 : Int), ([], (0 : Int)), (false, []), (0 : Int), (0 : Int), false, false, { data := #[] }), (0 : Int), a1, (0 : Int), (0 : Int), (0 : Int), (0 : Int), (0 : Int), (0 : Int))))
noncomputable def G18 (K : Nat) (a0 : Int) (a1 : Int) (a2 : Int) (a3 : Int) : Option (El T45) := t18 K a0 a1 a2 a3
theorem ev18 (K : Nat) (a0 : Int) (a1 : Int) (a2 : Int) (a3 : Int) : evFun Try.prog (tab18) 0 K Try.f18 [[.frz (List.range 64)]] [I .u32 a0, I .i64 a1, I .i64 a2, I .u32 a3] [] dq18.k = G18 K a0 a1 a2 a3 := by
  kernel_rfl
noncomputable def F18 (K : Nat) (a0 : Int) (a1 : Int) (a2 : Int) (a3 : Int) : Option (El T45) := G18 K a0 a1 a2 a3
theorem cok18 (K : Nat) : CallOK Try.prog (tab18) := none_ok
theorem ok18 (K : Nat) : RowOK Try.prog 18 (row ad18 dq18 fun p => F18 K p.1 p.2.1 p.2.2.1 p.2.2.2) := row_ok fun x r h => has_of (cok18 K) Try.func18 ((ev18 K x.1 x.2.1 x.2.2.1 x.2.2.2).trans h)
/-! ganger/gangerlaw14.known -/
noncomputable def tab11 (F18 : Int → Int → Int → Int → Option (El T45)) (F12 : (List (El T45)) → Int → Option (List (El (.int .u32)))) (F13 : (List (El T45)) → Option (List (El (.int .u32)))) (F20 : (List (El T45)) → Int → Int → Option (Int)) (F16 : (List (El T45)) → Option (Int)) (F22 : (El T45) → Option (Int)) : Tab := ((((((Tab.none.add 18 (row ad18 dq18 fun p => F18 p.1 p.2.1 p.2.2.1 p.2.2.2)).add 12 (row ad12 dq12 fun p => F12 p.1 p.2)).add 13 (row ad13 dq13 fun p => F13 p)).add 20 (row ad20 dq20 fun p => F20 p.1 p.2.1 p.2.2)).add 16 (row ad16 dq16 fun p => F16 p)).add 22 (row ad22 dq22 fun p => F22 p))
noncomputable def t11 (F18 : Int → Int → Int → Int → Option (El T45)) (F12 : (List (El T45)) → Int → Option (List (El (.int .u32)))) (F13 : (List (El T45)) → Option (List (El (.int .u32)))) (F20 : (List (El T45)) → Int → Int → Option (Int)) (F16 : (List (El T45)) → Option (Int)) (F22 : (El T45) → Option (Int)) (K : Nat) : Option (Bool) := 
 (Option.bind (F18 (1 : Int) (5 : Int) (0 : Int) (0 : Int)) fun x0 => 
  (Option.bind (F18 (2 : Int) (1 : Int) (2 : Int) (1 : Int)) fun x1 => 
   (Option.bind (F18 (3 : Int) (1 : Int) (3 : Int) (1 : Int)) fun x2 => 
    (Option.bind (F18 (4 : Int) (1 : Int) (2 : Int) (3 : Int)) fun x3 => 
     (Option.bind (F12 [x0, x1, x2, x3] (0 : Int)) fun x4 => 
      (Option.bind (F13 [x0, x1, x2, x3]) fun x5 => (if ((↑(List.length x4) : Int) == (1 : Int)) = true then (if decide ((0 : Int) ≤ (0 : Int) ∧ (0 : Int) < (↑(List.length x4) : Int)) = true then (if (List.getD x4 (Int.toNat (0 : Int)) (zEl (Ty.int IntKind.u32)) == (2 : Int)) = true then (if ((↑(List.length x5) : Int) == (1 : Int)) = true then (if decide ((0 : Int) ≤ (0 : Int) ∧ (0 : Int) < (↑(List.length x5) : Int)) = true then (if (List.getD x5 (Int.toNat (0 : Int)) (zEl (Ty.int IntKind.u32)) == (3 : Int)) = true then 
             (Option.bind (F20 [x0, x1, x2, x3] (4 : Int) (0 : Int)) fun x6 => (if (x6 == (1 : Int)) = true then 
               (Option.bind (F16 (List.drop (Int.toNat (1 : Int)) (List.take (↑[x0, x1, x2, x3].length : Int).toNat [x0, x1, x2, x3]))) fun x7 => (if (x7 == (2 : Int)) = true then 
                 (Option.bind (F22 ([x0, x1, x2, x3].getD (Int.toNat (0 : Int)) (zEl T45))) fun x8 => some (x8 == (3 : Int)))
                else some (false)))
              else some (false)))
            else some (false))
           else none)
          else some (false))
         else some (false))
        else none)
       else some (false))))))))
noncomputable def G11 (F18 : Int → Int → Int → Int → Option (El T45)) (F12 : (List (El T45)) → Int → Option (List (El (.int .u32)))) (F13 : (List (El T45)) → Option (List (El (.int .u32)))) (F20 : (List (El T45)) → Int → Int → Option (Int)) (F16 : (List (El T45)) → Option (Int)) (F22 : (El T45) → Option (Int)) (K : Nat) : Option (Bool) := t11 F18 F12 F13 F20 F16 F22 K
theorem ev11 (F18 : Int → Int → Int → Int → Option (El T45)) (F12 : (List (El T45)) → Int → Option (List (El (.int .u32)))) (F13 : (List (El T45)) → Option (List (El (.int .u32)))) (F20 : (List (El T45)) → Int → Int → Option (Int)) (F16 : (List (El T45)) → Option (Int)) (F22 : (El T45) → Option (Int)) (K : Nat) : evFun Try.prog (tab11 F18 F12 F13 F20 F16 F22) 0 K Try.f11 [] [] [] dq11.k = G11 F18 F12 F13 F20 F16 F22 K := by
  kernel_rfl
noncomputable def F11 (K : Nat) : Option (Bool) := G11 (F18 K) (F12 K) (F13 K) (F20 K) (F16 K) (F22 K) K
theorem cok11 (K : Nat) : CallOK Try.prog (tab11 (F18 K) (F12 K) (F13 K) (F20 K) (F16 K) (F22 K)) := (add_ok (add_ok (add_ok (add_ok (add_ok (add_ok none_ok ent18 (ok18 K)) ent12 (ok12 K)) ent13 (ok13 K)) ent20 (ok20 K)) ent16 (ok16 K)) ent22 (ok22 K))
theorem ok11 (K : Nat) : RowOK Try.prog 11 (row ad11 dq11 fun p => F11 K) := row_ok fun x r h => has_of (cok11 K) Try.func11 ((ev11 (F18 K) (F12 K) (F13 K) (F20 K) (F16 K) (F22 K) K).trans h)
/-! ganger/gangerlaw14.WaitsLists -/
noncomputable def tab3 (F10 : (List (El T45)) → Option (Bool)) (F11 : Option (Bool)) (F12 : (List (El T45)) → Int → Option (List (El (.int .u32)))) (F13 : (List (El T45)) → Option (List (El (.int .u32)))) (F15 : (List (El T45)) → Int → Int → Option (List (El (.int .u32)))) (F14 : (List (El (.int .u32))) → (List (El (.int .u32))) → Option (Bool)) : Tab := ((((((Tab.none.add 10 (row ad10 dq10 fun p => F10 p)).add 11 (row ad11 dq11 fun p => F11)).add 12 (row ad12 dq12 fun p => F12 p.1 p.2)).add 13 (row ad13 dq13 fun p => F13 p)).add 15 (row ad15 dq15 fun p => F15 p.1 p.2.1 p.2.2)).add 14 (row ad14 dq14 fun p => F14 p.1 p.2))
noncomputable def la3 : List (List Tidy) := [[.only [0, 1, 5, 7], .ids [9, 10, 13, 15, 19, 20, 25, 26, 40, 43, 44, 46], .top [1000000]]]
noncomputable def hd3_0 (a0 : List (El T45)) (a1 : Int) (ps7 : Int) (ph13 : List (Int)) (ph15 : List (Int)) (ph19 : List (Int)) (ph25 : List (Int)) : St := { tm := slots (nat_lit 48) [(nat_lit 0, AV.row T45 a0), (nat_lit 1, AV.sc (Value.int IntKind.i64 a1)), (nat_lit 5, AV.own (nat_lit 13)), (nat_lit 7, AV.sc (Value.int IntKind.i64 ps7))], H := [(nat_lit 13, ABlk.arr (nat_lit 30) (Ty.int IntKind.u32) ph13), (nat_lit 15, ABlk.arr (nat_lit 30) (Ty.int IntKind.u32) ph15), (nat_lit 19, ABlk.arr (nat_lit 30) (Ty.int IntKind.u32) ph19), (nat_lit 25, ABlk.arr (nat_lit 30) (Ty.int IntKind.u32) ph25)] }
noncomputable def b3_0 (F10 : (List (El T45)) → Option (Bool)) (F11 : Option (Bool)) (F12 : (List (El T45)) → Int → Option (List (El (.int .u32)))) (F13 : (List (El T45)) → Option (List (El (.int .u32)))) (F15 : (List (El T45)) → Int → Int → Option (List (El (.int .u32)))) (F14 : (List (El (.int .u32))) → (List (El (.int .u32))) → Option (Bool)) (K : Nat) (a0 : List (El T45)) (a1 : Int) (r0 : Int → (List (Int)) → (List (Int)) → (List (Int)) → (List (Int)) → Option (Bool)) (ps7 : Int) (ph13 : List (Int)) (ph15 : List (Int)) (ph19 : List (Int)) (ph25 : List (Int)) : Option (Bool) :=(if decide (ps7 < (↑ph13.length : Int)) = true then (if decide ((0 : Int) ≤ ps7 ∧ ps7 < (↑ph13.length : Int)) = true then r0 (IntKind.i64.wrap (ps7 + (1 : Int))) (ph13.set ps7.toNat (0 : Int)) (ph15) (ph19) (ph25)
   else none)
  else 
   (Option.bind (F12 a0 a1) fun x8 => 
    (Option.bind (F15 a0 a1 (2 : Int)) fun x9 => 
     (Option.bind (F14 x8 x9) fun x10 => (if x10 = true then 
       (Option.bind (F11) fun x11 => some (x11))
      else some (false))))))
noncomputable def L3_0 (F10 : (List (El T45)) → Option (Bool)) (F11 : Option (Bool)) (F12 : (List (El T45)) → Int → Option (List (El (.int .u32)))) (F13 : (List (El T45)) → Option (List (El (.int .u32)))) (F15 : (List (El T45)) → Int → Int → Option (List (El (.int .u32)))) (F14 : (List (El (.int .u32))) → (List (El (.int .u32))) → Option (Bool)) (K : Nat) (a0 : List (El T45)) (a1 : Int) : Nat → Int → (List (Int)) → (List (Int)) → (List (Int)) → (List (Int)) → Option (Bool)
  | 0, _, _, _, _, _ => none
  | n + 1, ps7, ph13, ph15, ph19, ph25 => b3_0 F10 F11 F12 F13 F15 F14 K a0 a1 (L3_0 F10 F11 F12 F13 F15 F14 K a0 a1 n) ps7 ph13 ph15 ph19 ph25
noncomputable def t3 (F10 : (List (El T45)) → Option (Bool)) (F11 : Option (Bool)) (F12 : (List (El T45)) → Int → Option (List (El (.int .u32)))) (F13 : (List (El T45)) → Option (List (El (.int .u32)))) (F15 : (List (El T45)) → Int → Int → Option (List (El (.int .u32)))) (F14 : (List (El (.int .u32))) → (List (El (.int .u32))) → Option (Bool)) (K : Nat) (a0 : List (El T45)) (a1 : Int) (l0 : Nat → Int → (List (Int)) → (List (Int)) → (List (Int)) → (List (Int)) → Option (Bool)) : Option (Bool) := 
 (Option.bind (F10 a0) fun x0 => (if x0 = true then 
   (Option.bind (F11) fun x1 => some (x1))
  else 
   (Option.bind (F12 a0 a1) fun x2 => 
    (Option.bind (F13 a0) fun x3 => 
     (Option.bind (F15 a0 a1 (2 : Int)) fun x4 => 
      (Option.bind (F14 x2 x4) fun x5 => (if (!x5) = true then some (false)
       else 
        (Option.bind (F15 a0 (0 : Int) (3 : Int)) fun x6 => 
         (Option.bind (F14 x3 x6) fun x7 => (if (!x7) = true then some (false)
          else l0 K ((0 : Int)) (x2) (x3) (x4) (x6)))))))))))
noncomputable def G3 (F10 : (List (El T45)) → Option (Bool)) (F11 : Option (Bool)) (F12 : (List (El T45)) → Int → Option (List (El (.int .u32)))) (F13 : (List (El T45)) → Option (List (El (.int .u32)))) (F15 : (List (El T45)) → Int → Int → Option (List (El (.int .u32)))) (F14 : (List (El (.int .u32))) → (List (El (.int .u32))) → Option (Bool)) (K : Nat) (a0 : List (El T45)) (a1 : Int) : Option (Bool) := t3 F10 F11 F12 F13 F15 F14 K a0 a1 (L3_0 F10 F11 F12 F13 F15 F14 K a0 a1)
theorem lp3_0 (F10 : (List (El T45)) → Option (Bool)) (F11 : Option (Bool)) (F12 : (List (El T45)) → Int → Option (List (El (.int .u32)))) (F13 : (List (El T45)) → Option (List (El (.int .u32)))) (F15 : (List (El T45)) → Int → Int → Option (List (El (.int .u32)))) (F14 : (List (El (.int .u32))) → (List (El (.int .u32))) → Option (Bool)) (K : Nat) (a0 : List (El T45)) (a1 : Int) : ∀ (n : Nat) (ps7 : Int) (ph13 : List (Int)) (ph15 : List (Int)) (ph19 : List (Int)) (ph25 : List (Int)), loopN Try.prog (tab3 F10 F11 F12 F13 F15 F14) 0 K Try.f3 la3 dq3.k 0 [] n (hd3_0 a0 a1 ps7 ph13 ph15 ph19 ph25) = L3_0 F10 F11 F12 F13 F15 F14 K a0 a1 n ps7 ph13 ph15 ph19 ph25
  | 0, _, _, _, _, _ => by kernel_rfl
  | n + 1, ps7, ph13, ph15, ph19, ph25 => by
    have h : loopN Try.prog (tab3 F10 F11 F12 F13 F15 F14) 0 K Try.f3 la3 dq3.k 0 [] (n + 1) (hd3_0 a0 a1 ps7 ph13 ph15 ph19 ph25) = b3_0 F10 F11 F12 F13 F15 F14 K a0 a1 (fun q0 q1 q2 q3 q4 => loopN Try.prog (tab3 F10 F11 F12 F13 F15 F14) 0 K Try.f3 la3 dq3.k 0 [] n (hd3_0 a0 a1 q0 q1 q2 q3 q4)) ps7 ph13 ph15 ph19 ph25 := by kernel_rfl
    rw [h]
    simp only [lp3_0 F10 F11 F12 F13 F15 F14 K a0 a1 n]
    rfl
theorem ev3 (F10 : (List (El T45)) → Option (Bool)) (F11 : Option (Bool)) (F12 : (List (El T45)) → Int → Option (List (El (.int .u32)))) (F13 : (List (El T45)) → Option (List (El (.int .u32)))) (F15 : (List (El T45)) → Int → Int → Option (List (El (.int .u32)))) (F14 : (List (El (.int .u32))) → (List (El (.int .u32))) → Option (Bool)) (K : Nat) (a0 : List (El T45)) (a1 : Int) : evFun Try.prog (tab3 F10 F11 F12 F13 F15 F14) 0 K Try.f3 la3 [.row T45 a0, I .i64 a1] [] dq3.k = G3 F10 F11 F12 F13 F15 F14 K a0 a1 := by
  have h : evFun Try.prog (tab3 F10 F11 F12 F13 F15 F14) 0 K Try.f3 la3 [.row T45 a0, I .i64 a1] [] dq3.k = t3 F10 F11 F12 F13 F15 F14 K a0 a1 (fun k q0 q1 q2 q3 q4 => loopN Try.prog (tab3 F10 F11 F12 F13 F15 F14) 0 K Try.f3 la3 dq3.k 0 [] k (hd3_0 a0 a1 q0 q1 q2 q3 q4)) := by kernel_rfl
  rw [h]
  simp only [lp3_0 F10 F11 F12 F13 F15 F14 K a0 a1]
  rfl
noncomputable def F3 (K : Nat) (a0 : List (El T45)) (a1 : Int) : Option (Bool) := G3 (F10 K) (F11 K) (F12 K) (F13 K) (F15 K) (F14 K) K a0 a1
theorem cok3 (K : Nat) : CallOK Try.prog (tab3 (F10 K) (F11 K) (F12 K) (F13 K) (F15 K) (F14 K)) := (add_ok (add_ok (add_ok (add_ok (add_ok (add_ok none_ok ent10 (ok10 K)) ent11 (ok11 K)) ent12 (ok12 K)) ent13 (ok13 K)) ent15 (ok15 K)) ent14 (ok14 K))
theorem ok3 (K : Nat) : RowOK Try.prog 3 (row ad3 dq3 fun p => F3 K p.1 p.2) := row_ok fun x r h => has_of (cok3 K) Try.func3 ((ev3 (F10 K) (F11 K) (F12 K) (F13 K) (F15 K) (F14 K) K x.1 x.2).trans h)
/-! ganger/gangerlaw14.WaitsSingle -/
noncomputable def tab4 (F10 : (List (El T45)) → Option (Bool)) (F16 : (List (El T45)) → Option (Int)) (F11 : Option (Bool)) (F12 : (List (El T45)) → Int → Option (List (El (.int .u32)))) (F17 : (El T45) → (El T45) → Option (Bool)) : Tab := (((((Tab.none.add 10 (row ad10 dq10 fun p => F10 p)).add 16 (row ad16 dq16 fun p => F16 p)).add 11 (row ad11 dq11 fun p => F11)).add 12 (row ad12 dq12 fun p => F12 p.1 p.2)).add 17 (row ad17 dq17 fun p => F17 p.1 p.2))
noncomputable def la4 : List (List Tidy) := [[.only [0, 1, 5, 6], .ids [12, 15, 18, 21, 103], .top [1000000]], [.only [0, 1, 5, 6, 7, 8], .ids [7, 12, 15, 18, 21, 24, 40, 103], .top [1000001]], [.only [0, 1, 5, 6, 7, 8, 9, 10], .ids [7, 9, 12, 15, 18, 21, 24, 40, 63, 79, 103], .top [1000002]]]
noncomputable def hd4_0 (a0 : List (El T45)) (a1 : Int) (ps6 : Int) (ph21 : List (Int)) : St := { tm := slots (nat_lit 104) [(nat_lit 0, AV.row T45 a0), (nat_lit 1, AV.sc (Value.int IntKind.i64 a1)), (nat_lit 5, AV.own (nat_lit 21)), (nat_lit 6, AV.sc (Value.int IntKind.i64 ps6))], H := [(nat_lit 21, ABlk.arr (nat_lit 30) (Ty.int IntKind.u32) ph21)] }
noncomputable def hd4_1 (a0 : List (El T45)) (a1 : Int) (ps6 : Int) (ps8 : Int) (ph7 : El T45) (ph21 : List (Int)) : St := { tm := slots (nat_lit 104) [(nat_lit 0, AV.row T45 a0), (nat_lit 1, AV.sc (Value.int IntKind.i64 a1)), (nat_lit 5, AV.own (nat_lit 21)), (nat_lit 6, AV.sc (Value.int IntKind.i64 ps6)), (nat_lit 7, AV.ptr (nat_lit 7) (nat_lit 0)), (nat_lit 8, AV.sc (Value.int IntKind.i64 ps8))], H := [(nat_lit 7, ABlk.box (nat_lit 45) (cellsOf T45 ph7)), (nat_lit 21, ABlk.arr (nat_lit 30) (Ty.int IntKind.u32) ph21)] }
noncomputable def hd4_2 (a0 : List (El T45)) (a1 : Int) (ps6 : Int) (ps8 : Int) (ps10 : Int) (ph7 : El T45) (ph9 : El T45) (ph21 : List (Int)) : St := { tm := slots (nat_lit 104) [(nat_lit 0, AV.row T45 a0), (nat_lit 1, AV.sc (Value.int IntKind.i64 a1)), (nat_lit 5, AV.own (nat_lit 21)), (nat_lit 6, AV.sc (Value.int IntKind.i64 ps6)), (nat_lit 7, AV.ptr (nat_lit 7) (nat_lit 0)), (nat_lit 8, AV.sc (Value.int IntKind.i64 ps8)), (nat_lit 9, AV.ptr (nat_lit 9) (nat_lit 0)), (nat_lit 10, AV.sc (Value.int IntKind.i64 ps10))], H := [(nat_lit 7, ABlk.box (nat_lit 45) (cellsOf T45 ph7)), (nat_lit 9, ABlk.box (nat_lit 45) (cellsOf T45 ph9)), (nat_lit 21, ABlk.arr (nat_lit 30) (Ty.int IntKind.u32) ph21)] }
noncomputable def b4_2 (F10 : (List (El T45)) → Option (Bool)) (F16 : (List (El T45)) → Option (Int)) (F11 : Option (Bool)) (F12 : (List (El T45)) → Int → Option (List (El (.int .u32)))) (F17 : (El T45) → (El T45) → Option (Bool)) (K : Nat) (a0 : List (El T45)) (a1 : Int) (r0 : Int → (List (Int)) → Option (Bool)) (r1 : Int → Int → (El T45) → (List (Int)) → Option (Bool)) (r2 : Int → Int → Int → (El T45) → (El T45) → (List (Int)) → Option (Bool)) (ps6 : Int) (ps8 : Int) (ps10 : Int) (ph7 : El T45) (ph9 : El T45) (ph21 : List (Int)) : Option (Bool) :=(if decide (ps10 < (↑ph21.length : Int)) = true then (if decide ((0 : Int) ≤ ps10 ∧ ps10 < (↑ph21.length : Int)) = true then (if (ph21.getD ps10.toNat (zEl (Ty.int IntKind.u32)) == ph9.1) = true then some (false)
    else r2 (ps6) (ps8) (IntKind.i64.wrap (ps10 + (1 : Int))) (ph7) (ph9) (ph21))
   else none)
  else r1 (ps6) (IntKind.i64.wrap (ps8 + (1 : Int))) (ph7) (ph21))
noncomputable def L4_2 (F10 : (List (El T45)) → Option (Bool)) (F16 : (List (El T45)) → Option (Int)) (F11 : Option (Bool)) (F12 : (List (El T45)) → Int → Option (List (El (.int .u32)))) (F17 : (El T45) → (El T45) → Option (Bool)) (K : Nat) (a0 : List (El T45)) (a1 : Int) (r0 : Int → (List (Int)) → Option (Bool)) (r1 : Int → Int → (El T45) → (List (Int)) → Option (Bool)) : Nat → Int → Int → Int → (El T45) → (El T45) → (List (Int)) → Option (Bool)
  | 0, _, _, _, _, _, _ => none
  | n + 1, ps6, ps8, ps10, ph7, ph9, ph21 => b4_2 F10 F16 F11 F12 F17 K a0 a1 r0 r1 (L4_2 F10 F16 F11 F12 F17 K a0 a1 r0 r1 n) ps6 ps8 ps10 ph7 ph9 ph21
noncomputable def b4_1 (F10 : (List (El T45)) → Option (Bool)) (F16 : (List (El T45)) → Option (Int)) (F11 : Option (Bool)) (F12 : (List (El T45)) → Int → Option (List (El (.int .u32)))) (F17 : (El T45) → (El T45) → Option (Bool)) (K : Nat) (a0 : List (El T45)) (a1 : Int) (r0 : Int → (List (Int)) → Option (Bool)) (r1 : Int → Int → (El T45) → (List (Int)) → Option (Bool)) (l2 : Nat → Int → Int → Int → (El T45) → (El T45) → (List (Int)) → Option (Bool)) (ps6 : Int) (ps8 : Int) (ph7 : El T45) (ph21 : List (Int)) : Option (Bool) :=(if decide (ps8 < (↑a0.length : Int)) = true then (if decide ((0 : Int) ≤ ps8 ∧ ps8 < (↑a0.length : Int)) = true then (if ((a0.getD ps8.toNat (zEl T45)).1 == ph7.1) = true then r1 (ps6) (IntKind.i64.wrap (ps8 + (1 : Int))) (ph7) (ph21)
    else 
     (Option.bind (F17 ph7 (a0.getD ps8.toNat (zEl T45))) fun x6 => (if (!x6) = true then r1 (ps6) (IntKind.i64.wrap (ps8 + (1 : Int))) (ph7) (ph21)
      else (if ((a0.getD ps8.toNat (zEl T45)).2.2.2.2.2.1 == (3 : Int)) = true then some (false)
       else (if ((a0.getD ps8.toNat (zEl T45)).2.2.2.2.2.1 == (4 : Int)) = true then some (false)
        else l2 K (ps6) (ps8) ((0 : Int)) (ph7) (a0.getD ps8.toNat (zEl T45)) (ph21))))))
   else none)
  else r0 (IntKind.i64.wrap (ps6 + (1 : Int))) (ph21))
noncomputable def L4_1 (F10 : (List (El T45)) → Option (Bool)) (F16 : (List (El T45)) → Option (Int)) (F11 : Option (Bool)) (F12 : (List (El T45)) → Int → Option (List (El (.int .u32)))) (F17 : (El T45) → (El T45) → Option (Bool)) (K : Nat) (a0 : List (El T45)) (a1 : Int) (r0 : Int → (List (Int)) → Option (Bool)) : Nat → Int → Int → (El T45) → (List (Int)) → Option (Bool)
  | 0, _, _, _, _ => none
  | n + 1, ps6, ps8, ph7, ph21 => b4_1 F10 F16 F11 F12 F17 K a0 a1 r0 (L4_1 F10 F16 F11 F12 F17 K a0 a1 r0 n) (L4_2 F10 F16 F11 F12 F17 K a0 a1 r0 (L4_1 F10 F16 F11 F12 F17 K a0 a1 r0 n)) ps6 ps8 ph7 ph21
noncomputable def b4_0 (F10 : (List (El T45)) → Option (Bool)) (F16 : (List (El T45)) → Option (Int)) (F11 : Option (Bool)) (F12 : (List (El T45)) → Int → Option (List (El (.int .u32)))) (F17 : (El T45) → (El T45) → Option (Bool)) (K : Nat) (a0 : List (El T45)) (a1 : Int) (r0 : Int → (List (Int)) → Option (Bool)) (l1 : Nat → Int → Int → (El T45) → (List (Int)) → Option (Bool)) (ps6 : Int) (ph21 : List (Int)) : Option (Bool) :=(if decide (ps6 < (↑ph21.length : Int)) = true then (if decide ((0 : Int) ≤ ps6 ∧ ps6 < (↑ph21.length : Int)) = true then (if (ph21.getD ps6.toNat (zEl (Ty.int IntKind.u32)) == (0 : Int)) = true then some (false)
    else (if decide ((0 : Int) ≤ ps6 ∧ ps6 < (↑ph21.length : Int)) = true then (if decide (IntKind.i64.wrap (ph21.getD ps6.toNat (zEl (Ty.int IntKind.u32))) > (↑a0.length : Int)) = true then some (false)
      else (if decide ((0 : Int) ≤ ps6 ∧ ps6 < (↑ph21.length : Int)) = true then (if decide ((0 : Int) ≤ IntKind.u32.wrap (ph21.getD ps6.toNat (zEl (Ty.int IntKind.u32)) - (1 : Int)) ∧ IntKind.u32.wrap (ph21.getD ps6.toNat (zEl (Ty.int IntKind.u32)) - (1 : Int)) < (↑a0.length : Int)) = true then (if ((a0.getD (IntKind.u32.wrap (ph21.getD ps6.toNat (zEl (Ty.int IntKind.u32)) - (1 : Int))).toNat (zEl T45)).2.2.2.2.2.1 != (1 : Int)) = true then some (false)
         else (if decide ((a0.getD (IntKind.u32.wrap (ph21.getD ps6.toNat (zEl (Ty.int IntKind.u32)) - (1 : Int))).toNat (zEl T45)).2.2.2.1.2.2.2.2.2.2.2.2.2.1 > a1) = true then some (false)
          else l1 K (ps6) ((0 : Int)) (a0.getD (IntKind.u32.wrap (ph21.getD ps6.toNat (zEl (Ty.int IntKind.u32)) - (1 : Int))).toNat (zEl T45)) (ph21)))
        else none)
       else none))
     else none))
   else none)
  else 
   (Option.bind (F11) fun x5 => some (x5)))
noncomputable def L4_0 (F10 : (List (El T45)) → Option (Bool)) (F16 : (List (El T45)) → Option (Int)) (F11 : Option (Bool)) (F12 : (List (El T45)) → Int → Option (List (El (.int .u32)))) (F17 : (El T45) → (El T45) → Option (Bool)) (K : Nat) (a0 : List (El T45)) (a1 : Int) : Nat → Int → (List (Int)) → Option (Bool)
  | 0, _, _ => none
  | n + 1, ps6, ph21 => b4_0 F10 F16 F11 F12 F17 K a0 a1 (L4_0 F10 F16 F11 F12 F17 K a0 a1 n) (L4_1 F10 F16 F11 F12 F17 K a0 a1 (L4_0 F10 F16 F11 F12 F17 K a0 a1 n)) ps6 ph21
noncomputable def t4 (F10 : (List (El T45)) → Option (Bool)) (F16 : (List (El T45)) → Option (Int)) (F11 : Option (Bool)) (F12 : (List (El T45)) → Int → Option (List (El (.int .u32)))) (F17 : (El T45) → (El T45) → Option (Bool)) (K : Nat) (a0 : List (El T45)) (a1 : Int) (l0 : Nat → Int → (List (Int)) → Option (Bool)) : Option (Bool) := 
 (Option.bind (F10 a0) fun x0 => (if x0 = true then 
   (Option.bind (F11) fun x1 => some (x1))
  else 
   (Option.bind (F16 a0) fun x2 => (if (x2 != (0 : Int)) = true then 
     (Option.bind (F11) fun x3 => some (x3))
    else 
     (Option.bind (F12 a0 a1) fun x4 => l0 K ((0 : Int)) (x4))))))
noncomputable def G4 (F10 : (List (El T45)) → Option (Bool)) (F16 : (List (El T45)) → Option (Int)) (F11 : Option (Bool)) (F12 : (List (El T45)) → Int → Option (List (El (.int .u32)))) (F17 : (El T45) → (El T45) → Option (Bool)) (K : Nat) (a0 : List (El T45)) (a1 : Int) : Option (Bool) := t4 F10 F16 F11 F12 F17 K a0 a1 (L4_0 F10 F16 F11 F12 F17 K a0 a1)
theorem lp4_2 (F10 : (List (El T45)) → Option (Bool)) (F16 : (List (El T45)) → Option (Int)) (F11 : Option (Bool)) (F12 : (List (El T45)) → Int → Option (List (El (.int .u32)))) (F17 : (El T45) → (El T45) → Option (Bool)) (K : Nat) (a0 : List (El T45)) (a1 : Int) : ∀ (m0 m1 : Nat) (n : Nat) (ps6 : Int) (ps8 : Int) (ps10 : Int) (ph7 : El T45) (ph9 : El T45) (ph21 : List (Int)), loopN Try.prog (tab4 F10 F16 F11 F12 F17) 0 K Try.f4 la4 dq4.k 2 [m0, m1] n (hd4_2 a0 a1 ps6 ps8 ps10 ph7 ph9 ph21) = L4_2 F10 F16 F11 F12 F17 K a0 a1 (fun q0 q1 => loopN Try.prog (tab4 F10 F16 F11 F12 F17) 0 K Try.f4 la4 dq4.k 0 [] m0 (hd4_0 a0 a1 q0 q1)) (fun q0 q1 q2 q3 => loopN Try.prog (tab4 F10 F16 F11 F12 F17) 0 K Try.f4 la4 dq4.k 1 [m0] m1 (hd4_1 a0 a1 q0 q1 q2 q3)) n ps6 ps8 ps10 ph7 ph9 ph21
  | m0, m1, 0, _, _, _, _, _, _ => by kernel_rfl
  | m0, m1, n + 1, ps6, ps8, ps10, ph7, ph9, ph21 => by
    have h : loopN Try.prog (tab4 F10 F16 F11 F12 F17) 0 K Try.f4 la4 dq4.k 2 [m0, m1] (n + 1) (hd4_2 a0 a1 ps6 ps8 ps10 ph7 ph9 ph21) = b4_2 F10 F16 F11 F12 F17 K a0 a1 (fun q0 q1 => loopN Try.prog (tab4 F10 F16 F11 F12 F17) 0 K Try.f4 la4 dq4.k 0 [] m0 (hd4_0 a0 a1 q0 q1)) (fun q0 q1 q2 q3 => loopN Try.prog (tab4 F10 F16 F11 F12 F17) 0 K Try.f4 la4 dq4.k 1 [m0] m1 (hd4_1 a0 a1 q0 q1 q2 q3)) (fun q0 q1 q2 q3 q4 q5 => loopN Try.prog (tab4 F10 F16 F11 F12 F17) 0 K Try.f4 la4 dq4.k 2 [m0, m1] n (hd4_2 a0 a1 q0 q1 q2 q3 q4 q5)) ps6 ps8 ps10 ph7 ph9 ph21 := by kernel_rfl
    rw [h]
    simp only [lp4_2 F10 F16 F11 F12 F17 K a0 a1 m0 m1 n]
    rfl
theorem lp4_1 (F10 : (List (El T45)) → Option (Bool)) (F16 : (List (El T45)) → Option (Int)) (F11 : Option (Bool)) (F12 : (List (El T45)) → Int → Option (List (El (.int .u32)))) (F17 : (El T45) → (El T45) → Option (Bool)) (K : Nat) (a0 : List (El T45)) (a1 : Int) : ∀ (m0 : Nat) (n : Nat) (ps6 : Int) (ps8 : Int) (ph7 : El T45) (ph21 : List (Int)), loopN Try.prog (tab4 F10 F16 F11 F12 F17) 0 K Try.f4 la4 dq4.k 1 [m0] n (hd4_1 a0 a1 ps6 ps8 ph7 ph21) = L4_1 F10 F16 F11 F12 F17 K a0 a1 (fun q0 q1 => loopN Try.prog (tab4 F10 F16 F11 F12 F17) 0 K Try.f4 la4 dq4.k 0 [] m0 (hd4_0 a0 a1 q0 q1)) n ps6 ps8 ph7 ph21
  | m0, 0, _, _, _, _ => by kernel_rfl
  | m0, n + 1, ps6, ps8, ph7, ph21 => by
    have h : loopN Try.prog (tab4 F10 F16 F11 F12 F17) 0 K Try.f4 la4 dq4.k 1 [m0] (n + 1) (hd4_1 a0 a1 ps6 ps8 ph7 ph21) = b4_1 F10 F16 F11 F12 F17 K a0 a1 (fun q0 q1 => loopN Try.prog (tab4 F10 F16 F11 F12 F17) 0 K Try.f4 la4 dq4.k 0 [] m0 (hd4_0 a0 a1 q0 q1)) (fun q0 q1 q2 q3 => loopN Try.prog (tab4 F10 F16 F11 F12 F17) 0 K Try.f4 la4 dq4.k 1 [m0] n (hd4_1 a0 a1 q0 q1 q2 q3)) (fun k q0 q1 q2 q3 q4 q5 => loopN Try.prog (tab4 F10 F16 F11 F12 F17) 0 K Try.f4 la4 dq4.k 2 [m0, n] k (hd4_2 a0 a1 q0 q1 q2 q3 q4 q5)) ps6 ps8 ph7 ph21 := by kernel_rfl
    rw [h]
    simp only [lp4_1 F10 F16 F11 F12 F17 K a0 a1 m0 n, lp4_2 F10 F16 F11 F12 F17 K a0 a1 m0 n]
    rfl
theorem lp4_0 (F10 : (List (El T45)) → Option (Bool)) (F16 : (List (El T45)) → Option (Int)) (F11 : Option (Bool)) (F12 : (List (El T45)) → Int → Option (List (El (.int .u32)))) (F17 : (El T45) → (El T45) → Option (Bool)) (K : Nat) (a0 : List (El T45)) (a1 : Int) : ∀ (n : Nat) (ps6 : Int) (ph21 : List (Int)), loopN Try.prog (tab4 F10 F16 F11 F12 F17) 0 K Try.f4 la4 dq4.k 0 [] n (hd4_0 a0 a1 ps6 ph21) = L4_0 F10 F16 F11 F12 F17 K a0 a1 n ps6 ph21
  | 0, _, _ => by kernel_rfl
  | n + 1, ps6, ph21 => by
    have h : loopN Try.prog (tab4 F10 F16 F11 F12 F17) 0 K Try.f4 la4 dq4.k 0 [] (n + 1) (hd4_0 a0 a1 ps6 ph21) = b4_0 F10 F16 F11 F12 F17 K a0 a1 (fun q0 q1 => loopN Try.prog (tab4 F10 F16 F11 F12 F17) 0 K Try.f4 la4 dq4.k 0 [] n (hd4_0 a0 a1 q0 q1)) (fun k q0 q1 q2 q3 => loopN Try.prog (tab4 F10 F16 F11 F12 F17) 0 K Try.f4 la4 dq4.k 1 [n] k (hd4_1 a0 a1 q0 q1 q2 q3)) ps6 ph21 := by kernel_rfl
    rw [h]
    simp only [lp4_0 F10 F16 F11 F12 F17 K a0 a1 n, lp4_1 F10 F16 F11 F12 F17 K a0 a1 n]
    rfl
theorem ev4 (F10 : (List (El T45)) → Option (Bool)) (F16 : (List (El T45)) → Option (Int)) (F11 : Option (Bool)) (F12 : (List (El T45)) → Int → Option (List (El (.int .u32)))) (F17 : (El T45) → (El T45) → Option (Bool)) (K : Nat) (a0 : List (El T45)) (a1 : Int) : evFun Try.prog (tab4 F10 F16 F11 F12 F17) 0 K Try.f4 la4 [.row T45 a0, I .i64 a1] [] dq4.k = G4 F10 F16 F11 F12 F17 K a0 a1 := by
  have h : evFun Try.prog (tab4 F10 F16 F11 F12 F17) 0 K Try.f4 la4 [.row T45 a0, I .i64 a1] [] dq4.k = t4 F10 F16 F11 F12 F17 K a0 a1 (fun k q0 q1 => loopN Try.prog (tab4 F10 F16 F11 F12 F17) 0 K Try.f4 la4 dq4.k 0 [] k (hd4_0 a0 a1 q0 q1)) := by kernel_rfl
  rw [h]
  simp only [lp4_0 F10 F16 F11 F12 F17 K a0 a1]
  rfl
noncomputable def F4 (K : Nat) (a0 : List (El T45)) (a1 : Int) : Option (Bool) := G4 (F10 K) (F16 K) (F11 K) (F12 K) (F17 K) K a0 a1
theorem cok4 (K : Nat) : CallOK Try.prog (tab4 (F10 K) (F16 K) (F11 K) (F12 K) (F17 K)) := (add_ok (add_ok (add_ok (add_ok (add_ok none_ok ent10 (ok10 K)) ent16 (ok16 K)) ent11 (ok11 K)) ent12 (ok12 K)) ent17 (ok17 K))
theorem ok4 (K : Nat) : RowOK Try.prog 4 (row ad4 dq4 fun p => F4 K p.1 p.2) := row_ok fun x r h => has_of (cok4 K) Try.func4 ((ev4 (F10 K) (F16 K) (F11 K) (F12 K) (F17 K) K x.1 x.2).trans h)
/-! ganger/gangerlaw14.WaitsArrays -/
noncomputable def tab5 (F18 : Int → Int → Int → Int → Option (El T45)) (F12 : (List (El T45)) → Int → Option (List (El (.int .u32)))) (F11 : Option (Bool)) : Tab := (((Tab.none.add 18 (row ad18 dq18 fun p => F18 p.1 p.2.1 p.2.2.1 p.2.2.2)).add 12 (row ad12 dq12 fun p => F12 p.1 p.2)).add 11 (row ad11 dq11 fun p => F11))
noncomputable def la5 : List (List Tidy) := [[.only [2, 7, 8, 9, 10], .pro 9 59 45 (T45), .ids [59, 79, 81, 109, 114], .top [1000000]], [.only [7, 8, 9, 12, 13], .ids [11, 35, 45, 58, 59, 79, 81, 109, 114], .top [1000001]], [.only [7, 8, 9, 12, 14, 15], .ids [11, 35, 45, 58, 59, 109, 114], .top [1000002]]]
noncomputable def hd5_0 (a0 : Int) (a1 : Int) (a2 : List (El (.int .u8))) (ps10 : Int) (ph59 : List (El T45)) : St := { tm := slots (nat_lit 116) [(nat_lit 2, AV.row (Ty.int IntKind.u8) a2), (nat_lit 7, AV.sc (Value.int IntKind.i64 (IntKind.i64.wrap ((1 : Int) + IntKind.i64.wrap ((IntKind.u64.wrap a0).tmod (8 : Int)))))), (nat_lit 8, AV.sc (Value.int IntKind.i64 (IntKind.i64.wrap ((IntKind.u64.wrap a1).tmod (6 : Int))))), (nat_lit 9, AV.own (nat_lit 59)), (nat_lit 10, AV.sc (Value.int IntKind.i64 ps10))], H := [(nat_lit 59, ABlk.arr (nat_lit 45) T45 ph59)] }
noncomputable def hd5_1 (a0 : Int) (a1 : Int) (a2 : List (El (.int .u8))) (ps12 : Int) (ps13 : Int) (ph59 : List (El T45)) : St := { tm := slots (nat_lit 116) [(nat_lit 7, AV.sc (Value.int IntKind.i64 (IntKind.i64.wrap ((1 : Int) + IntKind.i64.wrap ((IntKind.u64.wrap a0).tmod (8 : Int)))))), (nat_lit 8, AV.sc (Value.int IntKind.i64 (IntKind.i64.wrap ((IntKind.u64.wrap a1).tmod (6 : Int))))), (nat_lit 9, AV.own (nat_lit 59)), (nat_lit 12, AV.sc (Value.int IntKind.i64 ps12)), (nat_lit 13, AV.sc (Value.int IntKind.i64 ps13))], H := [(nat_lit 59, ABlk.arr (nat_lit 45) T45 ph59)] }
noncomputable def hd5_2 (a0 : Int) (a1 : Int) (a2 : List (El (.int .u8))) (ps12 : Int) (ps14 : Int) (ps15 : Int) (ph59 : List (El T45)) : St := { tm := slots (nat_lit 116) [(nat_lit 7, AV.sc (Value.int IntKind.i64 (IntKind.i64.wrap ((1 : Int) + IntKind.i64.wrap ((IntKind.u64.wrap a0).tmod (8 : Int)))))), (nat_lit 8, AV.sc (Value.int IntKind.i64 (IntKind.i64.wrap ((IntKind.u64.wrap a1).tmod (6 : Int))))), (nat_lit 9, AV.own (nat_lit 59)), (nat_lit 12, AV.sc (Value.int IntKind.i64 ps12)), (nat_lit 14, AV.sc (Value.int IntKind.i64 ps14)), (nat_lit 15, AV.sc (Value.int IntKind.i64 ps15))], H := [(nat_lit 59, ABlk.arr (nat_lit 45) T45 ph59)] }
noncomputable def b5_2 (F18 : Int → Int → Int → Int → Option (El T45)) (F12 : (List (El T45)) → Int → Option (List (El (.int .u32)))) (F11 : Option (Bool)) (K : Nat) (a0 : Int) (a1 : Int) (a2 : List (El (.int .u8))) (r2 : Int → Int → Int → (List (El T45)) → Option (Bool)) (ps12 : Int) (ps14 : Int) (ps15 : Int) (ph59 : List (El T45)) : Option (Bool) :=(if decide (ps15 < IntKind.i64.wrap ((1 : Int) + IntKind.i64.wrap ((IntKind.u64.wrap a0).tmod (8 : Int)))) = true then 
   (Option.bind (F12 ph59 (0 : Int)) fun x1 => (if ((↑(List.length x1) : Int) == (0 : Int)) = true then (if decide (IntKind.i64.wrap ((IntKind.u64.wrap a1).tmod (6 : Int)) > (0 : Int)) = true then (if (ps14 == if IntKind.i64.wrap ((IntKind.u64.wrap a1).tmod (6 : Int)) < ps12 then IntKind.i64.wrap ((IntKind.u64.wrap a1).tmod (6 : Int)) else ps12) = true then 
       (Option.bind (F11) fun x2 => some (x2))
      else some (false))
     else (if (ps14 == ps12) = true then 
       (Option.bind (F11) fun x3 => some (x3))
      else some (false)))
    else (if decide ((0 : Int) ≤ (0 : Int) ∧ (0 : Int) < (↑(List.length x1) : Int)) = true then (if (List.getD x1 (Int.toNat (0 : Int)) (zEl (Ty.int IntKind.u32)) == (0 : Int)) = true then some (false)
      else (if decide ((0 : Int) ≤ (0 : Int) ∧ (0 : Int) < (↑(List.length x1) : Int)) = true then (if decide (IntKind.i64.wrap (List.getD x1 (Int.toNat (0 : Int)) (zEl (Ty.int IntKind.u32))) > IntKind.i64.wrap ((1 : Int) + IntKind.i64.wrap ((IntKind.u64.wrap a0).tmod (8 : Int)))) = true then some (false)
        else (if decide ((0 : Int) ≤ (0 : Int) ∧ (0 : Int) < (↑(List.length x1) : Int)) = true then (if decide ((0 : Int) ≤ IntKind.u32.wrap (List.getD x1 (Int.toNat (0 : Int)) (zEl (Ty.int IntKind.u32)) - (1 : Int)) ∧ IntKind.u32.wrap (List.getD x1 (Int.toNat (0 : Int)) (zEl (Ty.int IntKind.u32)) - (1 : Int)) < (↑ph59.length : Int)) = true then r2 (ps12) (IntKind.i64.wrap (ps14 + (1 : Int))) (IntKind.i64.wrap (ps15 + (1 : Int))) (ph59.set (IntKind.u32.wrap (List.getD x1 (Int.toNat (0 : Int)) (zEl (Ty.int IntKind.u32)) - (1 : Int))).toNat ((ph59.getD (IntKind.u32.wrap (List.getD x1 (Int.toNat (0 : Int)) (zEl (Ty.int IntKind.u32)) - (1 : Int))).toNat (zEl T45)).1, (ph59.getD (IntKind.u32.wrap (List.getD x1 (Int.toNat (0 : Int)) (zEl (Ty.int IntKind.u32)) - (1 : Int))).toNat (zEl T45)).2.1, (ph59.getD (IntKind.u32.wrap (List.getD x1 (Int.toNat (0 : Int)) (zEl (Ty.int IntKind.u32)) - (1 : Int))).toNat (zEl T45)).2.2.1, (ph59.getD (IntKind.u32.wrap (List.getD x1 (Int.toNat (0 : Int)) (zEl (Ty.int IntKind.u32)) - (1 : Int))).toNat (zEl T45)).2.2.2.1, (ph59.getD (IntKind.u32.wrap (List.getD x1 (Int.toNat (0 : Int)) (zEl (Ty.int IntKind.u32)) - (1 : Int))).toNat (zEl T45)).2.2.2.2.1, (3 : Int), (ph59.getD (IntKind.u32.wrap (List.getD x1 (Int.toNat (0 : Int)) (zEl (Ty.int IntKind.u32)) - (1 : Int))).toNat (zEl T45)).2.2.2.2.2.2))
          else none)
         else none))
       else none))
     else none)))
  else (if decide (IntKind.i64.wrap ((IntKind.u64.wrap a1).tmod (6 : Int)) > (0 : Int)) = true then (if (ps14 == if IntKind.i64.wrap ((IntKind.u64.wrap a1).tmod (6 : Int)) < ps12 then IntKind.i64.wrap ((IntKind.u64.wrap a1).tmod (6 : Int)) else ps12) = true then 
     (Option.bind (F11) fun x4 => some (x4))
    else some (false))
   else (if (ps14 == ps12) = true then 
     (Option.bind (F11) fun x5 => some (x5))
    else some (false))))
noncomputable def L5_2 (F18 : Int → Int → Int → Int → Option (El T45)) (F12 : (List (El T45)) → Int → Option (List (El (.int .u32)))) (F11 : Option (Bool)) (K : Nat) (a0 : Int) (a1 : Int) (a2 : List (El (.int .u8))) : Nat → Int → Int → Int → (List (El T45)) → Option (Bool)
  | 0, _, _, _, _ => none
  | n + 1, ps12, ps14, ps15, ph59 => b5_2 F18 F12 F11 K a0 a1 a2 (L5_2 F18 F12 F11 K a0 a1 a2 n) ps12 ps14 ps15 ph59
noncomputable def b5_1 (F18 : Int → Int → Int → Int → Option (El T45)) (F12 : (List (El T45)) → Int → Option (List (El (.int .u32)))) (F11 : Option (Bool)) (K : Nat) (a0 : Int) (a1 : Int) (a2 : List (El (.int .u8))) (r1 : Int → Int → (List (El T45)) → Option (Bool)) (l2 : Nat → Int → Int → Int → (List (El T45)) → Option (Bool)) (ps12 : Int) (ps13 : Int) (ph59 : List (El T45)) : Option (Bool) :=(if decide (ps13 < IntKind.i64.wrap ((1 : Int) + IntKind.i64.wrap ((IntKind.u64.wrap a0).tmod (8 : Int)))) = true then (if decide ((0 : Int) ≤ ps13 ∧ ps13 < (↑ph59.length : Int)) = true then (if ((ph59.getD ps13.toNat (zEl T45)).2.2.2.2.2.1 == (1 : Int)) = true then r1 (IntKind.i64.wrap (ps12 + (1 : Int))) (IntKind.i64.wrap (ps13 + (1 : Int))) (ph59)
    else r1 (ps12) (IntKind.i64.wrap (ps13 + (1 : Int))) (ph59))
   else none)
  else l2 K (ps12) ((0 : Int)) ((0 : Int)) (ph59))
noncomputable def L5_1 (F18 : Int → Int → Int → Int → Option (El T45)) (F12 : (List (El T45)) → Int → Option (List (El (.int .u32)))) (F11 : Option (Bool)) (K : Nat) (a0 : Int) (a1 : Int) (a2 : List (El (.int .u8))) : Nat → Int → Int → (List (El T45)) → Option (Bool)
  | 0, _, _, _ => none
  | n + 1, ps12, ps13, ph59 => b5_1 F18 F12 F11 K a0 a1 a2 (L5_1 F18 F12 F11 K a0 a1 a2 n) (L5_2 F18 F12 F11 K a0 a1 a2) ps12 ps13 ph59
noncomputable def b5_0 (F18 : Int → Int → Int → Int → Option (El T45)) (F12 : (List (El T45)) → Int → Option (List (El (.int .u32)))) (F11 : Option (Bool)) (K : Nat) (a0 : Int) (a1 : Int) (a2 : List (El (.int .u8))) (r0 : Int → (List (El T45)) → Option (Bool)) (l1 : Nat → Int → Int → (List (El T45)) → Option (Bool)) (ps10 : Int) (ph59 : List (El T45)) : Option (Bool) :=(if decide (ps10 < IntKind.i64.wrap ((1 : Int) + IntKind.i64.wrap ((IntKind.u64.wrap a0).tmod (8 : Int)))) = true then 
   (Option.bind (F18 (IntKind.u32.wrap (IntKind.i64.wrap (ps10 + (1 : Int)))) (1 : Int) (0 : Int) (0 : Int)) fun x0 => (if decide (ps10 < (↑a2.length : Int)) = true then (if decide ((0 : Int) ≤ ps10 ∧ ps10 < (↑a2.length : Int)) = true then (if (Int.tmod (a2.getD ps10.toNat (zEl (Ty.int IntKind.u8))) (4 : Int) == (0 : Int)) = true then (if decide ((ph59.length + [(x0.1, (1 : Int), ps10, (x0.2.2.2.1.1, x0.2.2.2.1.2.1, x0.2.2.2.1.2.2.1, x0.2.2.2.1.2.2.2.1, x0.2.2.2.1.2.2.2.2.1, x0.2.2.2.1.2.2.2.2.2.1, (x0.2.2.2.1.2.2.2.2.2.2.1.1, IntKind.i64.wrap ((IntKind.u64.wrap a1).tmod (6 : Int))), x0.2.2.2.1.2.2.2.2.2.2.2), x0.2.2.2.2.1, (5 : Int), x0.2.2.2.2.2.2)].length) * Try.prog.types[(45 : Nat)].bytes ≤ (140737488355328 : Nat)) = true then r0 (IntKind.i64.wrap (ps10 + (1 : Int))) (ph59 ++ [(x0.1, (1 : Int), ps10, (x0.2.2.2.1.1, x0.2.2.2.1.2.1, x0.2.2.2.1.2.2.1, x0.2.2.2.1.2.2.2.1, x0.2.2.2.1.2.2.2.2.1, x0.2.2.2.1.2.2.2.2.2.1, (x0.2.2.2.1.2.2.2.2.2.2.1.1, IntKind.i64.wrap ((IntKind.u64.wrap a1).tmod (6 : Int))), x0.2.2.2.1.2.2.2.2.2.2.2), x0.2.2.2.2.1, (5 : Int), x0.2.2.2.2.2.2)])
       else none)
      else (if decide ((ph59.length + [(x0.1, (1 : Int), ps10, (x0.2.2.2.1.1, x0.2.2.2.1.2.1, x0.2.2.2.1.2.2.1, x0.2.2.2.1.2.2.2.1, x0.2.2.2.1.2.2.2.2.1, x0.2.2.2.1.2.2.2.2.2.1, (x0.2.2.2.1.2.2.2.2.2.2.1.1, IntKind.i64.wrap ((IntKind.u64.wrap a1).tmod (6 : Int))), x0.2.2.2.1.2.2.2.2.2.2.2), x0.2.2.2.2)].length) * Try.prog.types[(45 : Nat)].bytes ≤ (140737488355328 : Nat)) = true then r0 (IntKind.i64.wrap (ps10 + (1 : Int))) (ph59 ++ [(x0.1, (1 : Int), ps10, (x0.2.2.2.1.1, x0.2.2.2.1.2.1, x0.2.2.2.1.2.2.1, x0.2.2.2.1.2.2.2.1, x0.2.2.2.1.2.2.2.2.1, x0.2.2.2.1.2.2.2.2.2.1, (x0.2.2.2.1.2.2.2.2.2.2.1.1, IntKind.i64.wrap ((IntKind.u64.wrap a1).tmod (6 : Int))), x0.2.2.2.1.2.2.2.2.2.2.2), x0.2.2.2.2)])
       else none))
     else none)
    else (if decide ((ph59.length + [(x0.1, (1 : Int), ps10, (x0.2.2.2.1.1, x0.2.2.2.1.2.1, x0.2.2.2.1.2.2.1, x0.2.2.2.1.2.2.2.1, x0.2.2.2.1.2.2.2.2.1, x0.2.2.2.1.2.2.2.2.2.1, (x0.2.2.2.1.2.2.2.2.2.2.1.1, IntKind.i64.wrap ((IntKind.u64.wrap a1).tmod (6 : Int))), x0.2.2.2.1.2.2.2.2.2.2.2), x0.2.2.2.2)].length) * Try.prog.types[(45 : Nat)].bytes ≤ (140737488355328 : Nat)) = true then r0 (IntKind.i64.wrap (ps10 + (1 : Int))) (ph59 ++ [(x0.1, (1 : Int), ps10, (x0.2.2.2.1.1, x0.2.2.2.1.2.1, x0.2.2.2.1.2.2.1, x0.2.2.2.1.2.2.2.1, x0.2.2.2.1.2.2.2.2.1, x0.2.2.2.1.2.2.2.2.2.1, (x0.2.2.2.1.2.2.2.2.2.2.1.1, IntKind.i64.wrap ((IntKind.u64.wrap a1).tmod (6 : Int))), x0.2.2.2.1.2.2.2.2.2.2.2), x0.2.2.2.2)])
     else none)))
  else l1 K ((0 : Int)) ((0 : Int)) (ph59))
noncomputable def L5_0 (F18 : Int → Int → Int → Int → Option (El T45)) (F12 : (List (El T45)) → Int → Option (List (El (.int .u32)))) (F11 : Option (Bool)) (K : Nat) (a0 : Int) (a1 : Int) (a2 : List (El (.int .u8))) : Nat → Int → (List (El T45)) → Option (Bool)
  | 0, _, _ => none
  | n + 1, ps10, ph59 => b5_0 F18 F12 F11 K a0 a1 a2 (L5_0 F18 F12 F11 K a0 a1 a2 n) (L5_1 F18 F12 F11 K a0 a1 a2) ps10 ph59
noncomputable def t5 (F18 : Int → Int → Int → Int → Option (El T45)) (F12 : (List (El T45)) → Int → Option (List (El (.int .u32)))) (F11 : Option (Bool)) (K : Nat) (a0 : Int) (a1 : Int) (a2 : List (El (.int .u8))) (l0 : Nat → Int → (List (El T45)) → Option (Bool)) : Option (Bool) := l0 K ((0 : Int)) ([])
noncomputable def G5 (F18 : Int → Int → Int → Int → Option (El T45)) (F12 : (List (El T45)) → Int → Option (List (El (.int .u32)))) (F11 : Option (Bool)) (K : Nat) (a0 : Int) (a1 : Int) (a2 : List (El (.int .u8))) : Option (Bool) := t5 F18 F12 F11 K a0 a1 a2 (L5_0 F18 F12 F11 K a0 a1 a2)
theorem lp5_2 (F18 : Int → Int → Int → Int → Option (El T45)) (F12 : (List (El T45)) → Int → Option (List (El (.int .u32)))) (F11 : Option (Bool)) (K : Nat) (a0 : Int) (a1 : Int) (a2 : List (El (.int .u8))) : ∀ (n : Nat) (ps12 : Int) (ps14 : Int) (ps15 : Int) (ph59 : List (El T45)), loopN Try.prog (tab5 F18 F12 F11) 0 K Try.f5 la5 dq5.k 2 [] n (hd5_2 a0 a1 a2 ps12 ps14 ps15 ph59) = L5_2 F18 F12 F11 K a0 a1 a2 n ps12 ps14 ps15 ph59
  | 0, _, _, _, _ => by kernel_rfl
  | n + 1, ps12, ps14, ps15, ph59 => by
    have h : loopN Try.prog (tab5 F18 F12 F11) 0 K Try.f5 la5 dq5.k 2 [] (n + 1) (hd5_2 a0 a1 a2 ps12 ps14 ps15 ph59) = b5_2 F18 F12 F11 K a0 a1 a2 (fun q0 q1 q2 q3 => loopN Try.prog (tab5 F18 F12 F11) 0 K Try.f5 la5 dq5.k 2 [] n (hd5_2 a0 a1 a2 q0 q1 q2 q3)) ps12 ps14 ps15 ph59 := by kernel_rfl
    rw [h]
    simp only [lp5_2 F18 F12 F11 K a0 a1 a2 n]
    rfl
theorem lp5_1 (F18 : Int → Int → Int → Int → Option (El T45)) (F12 : (List (El T45)) → Int → Option (List (El (.int .u32)))) (F11 : Option (Bool)) (K : Nat) (a0 : Int) (a1 : Int) (a2 : List (El (.int .u8))) : ∀ (n : Nat) (ps12 : Int) (ps13 : Int) (ph59 : List (El T45)), loopN Try.prog (tab5 F18 F12 F11) 0 K Try.f5 la5 dq5.k 1 [] n (hd5_1 a0 a1 a2 ps12 ps13 ph59) = L5_1 F18 F12 F11 K a0 a1 a2 n ps12 ps13 ph59
  | 0, _, _, _ => by kernel_rfl
  | n + 1, ps12, ps13, ph59 => by
    have h : loopN Try.prog (tab5 F18 F12 F11) 0 K Try.f5 la5 dq5.k 1 [] (n + 1) (hd5_1 a0 a1 a2 ps12 ps13 ph59) = b5_1 F18 F12 F11 K a0 a1 a2 (fun q0 q1 q2 => loopN Try.prog (tab5 F18 F12 F11) 0 K Try.f5 la5 dq5.k 1 [] n (hd5_1 a0 a1 a2 q0 q1 q2)) (fun k q0 q1 q2 q3 => loopN Try.prog (tab5 F18 F12 F11) 0 K Try.f5 la5 dq5.k 2 [] k (hd5_2 a0 a1 a2 q0 q1 q2 q3)) ps12 ps13 ph59 := by kernel_rfl
    rw [h]
    simp only [lp5_1 F18 F12 F11 K a0 a1 a2 n, lp5_2 F18 F12 F11 K a0 a1 a2]
    rfl
theorem lp5_0 (F18 : Int → Int → Int → Int → Option (El T45)) (F12 : (List (El T45)) → Int → Option (List (El (.int .u32)))) (F11 : Option (Bool)) (K : Nat) (a0 : Int) (a1 : Int) (a2 : List (El (.int .u8))) : ∀ (n : Nat) (ps10 : Int) (ph59 : List (El T45)), loopN Try.prog (tab5 F18 F12 F11) 0 K Try.f5 la5 dq5.k 0 [] n (hd5_0 a0 a1 a2 ps10 ph59) = L5_0 F18 F12 F11 K a0 a1 a2 n ps10 ph59
  | 0, _, _ => by kernel_rfl
  | n + 1, ps10, ph59 => by
    have h : loopN Try.prog (tab5 F18 F12 F11) 0 K Try.f5 la5 dq5.k 0 [] (n + 1) (hd5_0 a0 a1 a2 ps10 ph59) = b5_0 F18 F12 F11 K a0 a1 a2 (fun q0 q1 => loopN Try.prog (tab5 F18 F12 F11) 0 K Try.f5 la5 dq5.k 0 [] n (hd5_0 a0 a1 a2 q0 q1)) (fun k q0 q1 q2 => loopN Try.prog (tab5 F18 F12 F11) 0 K Try.f5 la5 dq5.k 1 [] k (hd5_1 a0 a1 a2 q0 q1 q2)) ps10 ph59 := by kernel_rfl
    rw [h]
    simp only [lp5_0 F18 F12 F11 K a0 a1 a2 n, lp5_1 F18 F12 F11 K a0 a1 a2]
    rfl
theorem ev5 (F18 : Int → Int → Int → Int → Option (El T45)) (F12 : (List (El T45)) → Int → Option (List (El (.int .u32)))) (F11 : Option (Bool)) (K : Nat) (a0 : Int) (a1 : Int) (a2 : List (El (.int .u8))) : evFun Try.prog (tab5 F18 F12 F11) 0 K Try.f5 la5 [I .i64 a0, I .i64 a1, .row (.int .u8) a2] [] dq5.k = G5 F18 F12 F11 K a0 a1 a2 := by
  have h : evFun Try.prog (tab5 F18 F12 F11) 0 K Try.f5 la5 [I .i64 a0, I .i64 a1, .row (.int .u8) a2] [] dq5.k = t5 F18 F12 F11 K a0 a1 a2 (fun k q0 q1 => loopN Try.prog (tab5 F18 F12 F11) 0 K Try.f5 la5 dq5.k 0 [] k (hd5_0 a0 a1 a2 q0 q1)) := by kernel_rfl
  rw [h]
  simp only [lp5_0 F18 F12 F11 K a0 a1 a2]
  rfl
noncomputable def F5 (K : Nat) (a0 : Int) (a1 : Int) (a2 : List (El (.int .u8))) : Option (Bool) := G5 (F18 K) (F12 K) (F11 K) K a0 a1 a2
theorem cok5 (K : Nat) : CallOK Try.prog (tab5 (F18 K) (F12 K) (F11 K)) := (add_ok (add_ok (add_ok none_ok ent18 (ok18 K)) ent12 (ok12 K)) ent11 (ok11 K))
theorem ok5 (K : Nat) : RowOK Try.prog 5 (row ad5 dq5 fun p => F5 K p.1 p.2.1 p.2.2) := row_ok fun x r h => has_of (cok5 K) Try.func5 ((ev5 (F18 K) (F12 K) (F11 K) K x.1 x.2.1 x.2.2).trans h)
/-! ganger/gangerlaw14.WaitsNever -/
noncomputable def tab6 (F10 : (List (El T45)) → Option (Bool)) (F16 : (List (El T45)) → Option (Int)) (F11 : Option (Bool)) (F12 : (List (El T45)) → Int → Option (List (El (.int .u32)))) (F13 : (List (El T45)) → Option (List (El (.int .u32)))) : Tab := (((((Tab.none.add 10 (row ad10 dq10 fun p => F10 p)).add 16 (row ad16 dq16 fun p => F16 p)).add 11 (row ad11 dq11 fun p => F11)).add 12 (row ad12 dq12 fun p => F12 p.1 p.2)).add 13 (row ad13 dq13 fun p => F13 p))
noncomputable def la6 : List (List Tidy) := [[.only [0, 1, 5, 6], .ids [13, 16, 19, 22], .top [1000000]], [.only [0, 1, 5, 6, 7, 8, 9], .ids [13, 16, 19, 22, 25, 31, 33, 83, 85, 88], .top [1000001]], [.only [0, 1, 5, 6, 7, 8, 9, 10], .ids [13, 16, 19, 22, 25, 31, 33, 36, 52, 83, 85, 88], .top [1000002]], [.only [0, 1, 5, 6, 8, 11], .ids [13, 16, 19, 22, 25, 31, 33, 36, 52, 69, 83, 85], .top [1000003]]]
noncomputable def hd6_0 (a0 : List (El T45)) (a1 : Int) (ps6 : Int) (ph22 : List (El T45)) : St := { tm := slots (nat_lit 100) [(nat_lit 0, AV.row T45 a0), (nat_lit 1, AV.sc (Value.int IntKind.i64 a1)), (nat_lit 5, AV.own (nat_lit 22)), (nat_lit 6, AV.sc (Value.int IntKind.i64 ps6))], H := [(nat_lit 22, ABlk.arr (nat_lit 45) T45 ph22)] }
noncomputable def hd6_1 (a0 : List (El T45)) (a1 : Int) (ps6 : Int) (ps9 : Int) (ph22 : List (El T45)) (ph31 : List (Int)) (ph33 : List (Int)) : St := { tm := slots (nat_lit 100) [(nat_lit 0, AV.row T45 a0), (nat_lit 1, AV.sc (Value.int IntKind.i64 a1)), (nat_lit 5, AV.own (nat_lit 22)), (nat_lit 6, AV.sc (Value.int IntKind.i64 ps6)), (nat_lit 7, AV.own (nat_lit 31)), (nat_lit 8, AV.own (nat_lit 33)), (nat_lit 9, AV.sc (Value.int IntKind.i64 ps9))], H := [(nat_lit 22, ABlk.arr (nat_lit 45) T45 ph22), (nat_lit 31, ABlk.arr (nat_lit 30) (Ty.int IntKind.u32) ph31), (nat_lit 33, ABlk.arr (nat_lit 30) (Ty.int IntKind.u32) ph33)] }
noncomputable def hd6_2 (a0 : List (El T45)) (a1 : Int) (ps6 : Int) (ps9 : Int) (ps10 : Int) (ph22 : List (El T45)) (ph31 : List (Int)) (ph33 : List (Int)) : St := { tm := slots (nat_lit 100) [(nat_lit 0, AV.row T45 a0), (nat_lit 1, AV.sc (Value.int IntKind.i64 a1)), (nat_lit 5, AV.own (nat_lit 22)), (nat_lit 6, AV.sc (Value.int IntKind.i64 ps6)), (nat_lit 7, AV.own (nat_lit 31)), (nat_lit 8, AV.own (nat_lit 33)), (nat_lit 9, AV.sc (Value.int IntKind.i64 ps9)), (nat_lit 10, AV.sc (Value.int IntKind.i64 ps10))], H := [(nat_lit 22, ABlk.arr (nat_lit 45) T45 ph22), (nat_lit 31, ABlk.arr (nat_lit 30) (Ty.int IntKind.u32) ph31), (nat_lit 33, ABlk.arr (nat_lit 30) (Ty.int IntKind.u32) ph33)] }
noncomputable def hd6_3 (a0 : List (El T45)) (a1 : Int) (ps6 : Int) (ps11 : Int) (ph22 : List (El T45)) (ph31 : List (Int)) (ph33 : List (Int)) : St := { tm := slots (nat_lit 100) [(nat_lit 0, AV.row T45 a0), (nat_lit 1, AV.sc (Value.int IntKind.i64 a1)), (nat_lit 5, AV.own (nat_lit 22)), (nat_lit 6, AV.sc (Value.int IntKind.i64 ps6)), (nat_lit 8, AV.own (nat_lit 33)), (nat_lit 11, AV.sc (Value.int IntKind.i64 ps11))], H := [(nat_lit 22, ABlk.arr (nat_lit 45) T45 ph22), (nat_lit 31, ABlk.arr (nat_lit 30) (Ty.int IntKind.u32) ph31), (nat_lit 33, ABlk.arr (nat_lit 30) (Ty.int IntKind.u32) ph33)] }
noncomputable def b6_3 (F10 : (List (El T45)) → Option (Bool)) (F16 : (List (El T45)) → Option (Int)) (F11 : Option (Bool)) (F12 : (List (El T45)) → Int → Option (List (El (.int .u32)))) (F13 : (List (El T45)) → Option (List (El (.int .u32)))) (K : Nat) (a0 : List (El T45)) (a1 : Int) (r0 : Int → (List (El T45)) → Option (Bool)) (r3 : Int → Int → (List (El T45)) → (List (Int)) → (List (Int)) → Option (Bool)) (ps6 : Int) (ps11 : Int) (ph22 : List (El T45)) (ph31 : List (Int)) (ph33 : List (Int)) : Option (Bool) :=(if decide (ps11 < (↑ph33.length : Int)) = true then (if decide ((0 : Int) ≤ ps11 ∧ ps11 < (↑ph33.length : Int)) = true then (if decide ((0 : Int) ≤ IntKind.u32.wrap (ph33.getD ps11.toNat (zEl (Ty.int IntKind.u32)) - (1 : Int)) ∧ IntKind.u32.wrap (ph33.getD ps11.toNat (zEl (Ty.int IntKind.u32)) - (1 : Int)) < (↑ph22.length : Int)) = true then r3 (ps6) (IntKind.i64.wrap (ps11 + (1 : Int))) (ph22.set (IntKind.u32.wrap (ph33.getD ps11.toNat (zEl (Ty.int IntKind.u32)) - (1 : Int))).toNat ((ph22.getD (IntKind.u32.wrap (ph33.getD ps11.toNat (zEl (Ty.int IntKind.u32)) - (1 : Int))).toNat (zEl T45)).1, (ph22.getD (IntKind.u32.wrap (ph33.getD ps11.toNat (zEl (Ty.int IntKind.u32)) - (1 : Int))).toNat (zEl T45)).2.1, (ph22.getD (IntKind.u32.wrap (ph33.getD ps11.toNat (zEl (Ty.int IntKind.u32)) - (1 : Int))).toNat (zEl T45)).2.2.1, (ph22.getD (IntKind.u32.wrap (ph33.getD ps11.toNat (zEl (Ty.int IntKind.u32)) - (1 : Int))).toNat (zEl T45)).2.2.2.1, (ph22.getD (IntKind.u32.wrap (ph33.getD ps11.toNat (zEl (Ty.int IntKind.u32)) - (1 : Int))).toNat (zEl T45)).2.2.2.2.1, (9 : Int), (ph22.getD (IntKind.u32.wrap (ph33.getD ps11.toNat (zEl (Ty.int IntKind.u32)) - (1 : Int))).toNat (zEl T45)).2.2.2.2.2.2)) (ph31) (ph33)
    else none)
   else none)
  else r0 (IntKind.i64.wrap (ps6 + (1 : Int))) (ph22))
noncomputable def L6_3 (F10 : (List (El T45)) → Option (Bool)) (F16 : (List (El T45)) → Option (Int)) (F11 : Option (Bool)) (F12 : (List (El T45)) → Int → Option (List (El (.int .u32)))) (F13 : (List (El T45)) → Option (List (El (.int .u32)))) (K : Nat) (a0 : List (El T45)) (a1 : Int) (r0 : Int → (List (El T45)) → Option (Bool)) : Nat → Int → Int → (List (El T45)) → (List (Int)) → (List (Int)) → Option (Bool)
  | 0, _, _, _, _, _ => none
  | n + 1, ps6, ps11, ph22, ph31, ph33 => b6_3 F10 F16 F11 F12 F13 K a0 a1 r0 (L6_3 F10 F16 F11 F12 F13 K a0 a1 r0 n) ps6 ps11 ph22 ph31 ph33
noncomputable def b6_2 (F10 : (List (El T45)) → Option (Bool)) (F16 : (List (El T45)) → Option (Int)) (F11 : Option (Bool)) (F12 : (List (El T45)) → Int → Option (List (El (.int .u32)))) (F13 : (List (El T45)) → Option (List (El (.int .u32)))) (K : Nat) (a0 : List (El T45)) (a1 : Int) (r0 : Int → (List (El T45)) → Option (Bool)) (r1 : Int → Int → (List (El T45)) → (List (Int)) → (List (Int)) → Option (Bool)) (r2 : Int → Int → Int → (List (El T45)) → (List (Int)) → (List (Int)) → Option (Bool)) (ps6 : Int) (ps9 : Int) (ps10 : Int) (ph22 : List (El T45)) (ph31 : List (Int)) (ph33 : List (Int)) : Option (Bool) :=(if decide (ps10 < (↑ph31.length : Int)) = true then (if decide ((0 : Int) ≤ ps10 ∧ ps10 < (↑ph31.length : Int)) = true then (if decide ((0 : Int) ≤ ps9 ∧ ps9 < (↑ph33.length : Int)) = true then (if (ph31.getD ps10.toNat (zEl (Ty.int IntKind.u32)) == ph33.getD ps9.toNat (zEl (Ty.int IntKind.u32))) = true then some (false)
     else r2 (ps6) (ps9) (IntKind.i64.wrap (ps10 + (1 : Int))) (ph22) (ph31) (ph33))
    else none)
   else none)
  else r1 (ps6) (IntKind.i64.wrap (ps9 + (1 : Int))) (ph22) (ph31) (ph33))
noncomputable def L6_2 (F10 : (List (El T45)) → Option (Bool)) (F16 : (List (El T45)) → Option (Int)) (F11 : Option (Bool)) (F12 : (List (El T45)) → Int → Option (List (El (.int .u32)))) (F13 : (List (El T45)) → Option (List (El (.int .u32)))) (K : Nat) (a0 : List (El T45)) (a1 : Int) (r0 : Int → (List (El T45)) → Option (Bool)) (r1 : Int → Int → (List (El T45)) → (List (Int)) → (List (Int)) → Option (Bool)) : Nat → Int → Int → Int → (List (El T45)) → (List (Int)) → (List (Int)) → Option (Bool)
  | 0, _, _, _, _, _, _ => none
  | n + 1, ps6, ps9, ps10, ph22, ph31, ph33 => b6_2 F10 F16 F11 F12 F13 K a0 a1 r0 r1 (L6_2 F10 F16 F11 F12 F13 K a0 a1 r0 r1 n) ps6 ps9 ps10 ph22 ph31 ph33
noncomputable def b6_1 (F10 : (List (El T45)) → Option (Bool)) (F16 : (List (El T45)) → Option (Int)) (F11 : Option (Bool)) (F12 : (List (El T45)) → Int → Option (List (El (.int .u32)))) (F13 : (List (El T45)) → Option (List (El (.int .u32)))) (K : Nat) (a0 : List (El T45)) (a1 : Int) (r0 : Int → (List (El T45)) → Option (Bool)) (r1 : Int → Int → (List (El T45)) → (List (Int)) → (List (Int)) → Option (Bool)) (l2 : Nat → Int → Int → Int → (List (El T45)) → (List (Int)) → (List (Int)) → Option (Bool)) (l3 : Nat → Int → Int → (List (El T45)) → (List (Int)) → (List (Int)) → Option (Bool)) (ps6 : Int) (ps9 : Int) (ph22 : List (El T45)) (ph31 : List (Int)) (ph33 : List (Int)) : Option (Bool) :=(if decide (ps9 < (↑ph33.length : Int)) = true then (if decide ((0 : Int) ≤ ps9 ∧ ps9 < (↑ph33.length : Int)) = true then (if (ph33.getD ps9.toNat (zEl (Ty.int IntKind.u32)) == (0 : Int)) = true then some (false)
    else (if decide ((0 : Int) ≤ ps9 ∧ ps9 < (↑ph33.length : Int)) = true then (if decide (IntKind.i64.wrap (ph33.getD ps9.toNat (zEl (Ty.int IntKind.u32))) > (↑ph22.length : Int)) = true then some (false)
      else (if decide ((0 : Int) ≤ ps9 ∧ ps9 < (↑ph33.length : Int)) = true then (if decide ((0 : Int) ≤ IntKind.u32.wrap (ph33.getD ps9.toNat (zEl (Ty.int IntKind.u32)) - (1 : Int)) ∧ IntKind.u32.wrap (ph33.getD ps9.toNat (zEl (Ty.int IntKind.u32)) - (1 : Int)) < (↑ph22.length : Int)) = true then (if decide ((ph22.getD (IntKind.u32.wrap (ph33.getD ps9.toNat (zEl (Ty.int IntKind.u32)) - (1 : Int))).toNat (zEl T45)).2.2.2.2.2.1 > (2 : Int)) = true then some (false)
         else l2 K (ps6) (ps9) ((0 : Int)) (ph22) (ph31) (ph33))
        else none)
       else none))
     else none))
   else none)
  else (if ((↑ph33.length : Int) == (0 : Int)) = true then 
    (Option.bind (F11) fun x6 => some (x6))
   else l3 K (ps6) ((0 : Int)) (ph22) (ph31) (ph33)))
noncomputable def L6_1 (F10 : (List (El T45)) → Option (Bool)) (F16 : (List (El T45)) → Option (Int)) (F11 : Option (Bool)) (F12 : (List (El T45)) → Int → Option (List (El (.int .u32)))) (F13 : (List (El T45)) → Option (List (El (.int .u32)))) (K : Nat) (a0 : List (El T45)) (a1 : Int) (r0 : Int → (List (El T45)) → Option (Bool)) : Nat → Int → Int → (List (El T45)) → (List (Int)) → (List (Int)) → Option (Bool)
  | 0, _, _, _, _, _ => none
  | n + 1, ps6, ps9, ph22, ph31, ph33 => b6_1 F10 F16 F11 F12 F13 K a0 a1 r0 (L6_1 F10 F16 F11 F12 F13 K a0 a1 r0 n) (L6_2 F10 F16 F11 F12 F13 K a0 a1 r0 (L6_1 F10 F16 F11 F12 F13 K a0 a1 r0 n)) (L6_3 F10 F16 F11 F12 F13 K a0 a1 r0) ps6 ps9 ph22 ph31 ph33
noncomputable def b6_0 (F10 : (List (El T45)) → Option (Bool)) (F16 : (List (El T45)) → Option (Int)) (F11 : Option (Bool)) (F12 : (List (El T45)) → Int → Option (List (El (.int .u32)))) (F13 : (List (El T45)) → Option (List (El (.int .u32)))) (K : Nat) (a0 : List (El T45)) (a1 : Int) (r0 : Int → (List (El T45)) → Option (Bool)) (l1 : Nat → Int → Int → (List (El T45)) → (List (Int)) → (List (Int)) → Option (Bool)) (ps6 : Int) (ph22 : List (El T45)) : Option (Bool) :=(if decide (ps6 ≤ (↑a0.length : Int)) = true then 
   (Option.bind (F12 ph22 a1) fun x4 => 
    (Option.bind (F13 ph22) fun x5 => l1 K (ps6) ((0 : Int)) (ph22) (x4) (x5)))
  else some (false))
noncomputable def L6_0 (F10 : (List (El T45)) → Option (Bool)) (F16 : (List (El T45)) → Option (Int)) (F11 : Option (Bool)) (F12 : (List (El T45)) → Int → Option (List (El (.int .u32)))) (F13 : (List (El T45)) → Option (List (El (.int .u32)))) (K : Nat) (a0 : List (El T45)) (a1 : Int) : Nat → Int → (List (El T45)) → Option (Bool)
  | 0, _, _ => none
  | n + 1, ps6, ph22 => b6_0 F10 F16 F11 F12 F13 K a0 a1 (L6_0 F10 F16 F11 F12 F13 K a0 a1 n) (L6_1 F10 F16 F11 F12 F13 K a0 a1 (L6_0 F10 F16 F11 F12 F13 K a0 a1 n)) ps6 ph22
noncomputable def t6 (F10 : (List (El T45)) → Option (Bool)) (F16 : (List (El T45)) → Option (Int)) (F11 : Option (Bool)) (F12 : (List (El T45)) → Int → Option (List (El (.int .u32)))) (F13 : (List (El T45)) → Option (List (El (.int .u32)))) (K : Nat) (a0 : List (El T45)) (a1 : Int) (l0 : Nat → Int → (List (El T45)) → Option (Bool)) : Option (Bool) := 
 (Option.bind (F10 a0) fun x0 => (if x0 = true then 
   (Option.bind (F11) fun x1 => some (x1))
  else 
   (Option.bind (F16 a0) fun x2 => (if (x2 != (0 : Int)) = true then 
     (Option.bind (F11) fun x3 => some (x3))
    else (if decide (a0.length * Try.prog.types[(45 : Nat)].bytes ≤ (140737488355328 : Nat)) = true then l0 K ((0 : Int)) (a0)
     else none)))))
noncomputable def G6 (F10 : (List (El T45)) → Option (Bool)) (F16 : (List (El T45)) → Option (Int)) (F11 : Option (Bool)) (F12 : (List (El T45)) → Int → Option (List (El (.int .u32)))) (F13 : (List (El T45)) → Option (List (El (.int .u32)))) (K : Nat) (a0 : List (El T45)) (a1 : Int) : Option (Bool) := t6 F10 F16 F11 F12 F13 K a0 a1 (L6_0 F10 F16 F11 F12 F13 K a0 a1)
theorem lp6_3 (F10 : (List (El T45)) → Option (Bool)) (F16 : (List (El T45)) → Option (Int)) (F11 : Option (Bool)) (F12 : (List (El T45)) → Int → Option (List (El (.int .u32)))) (F13 : (List (El T45)) → Option (List (El (.int .u32)))) (K : Nat) (a0 : List (El T45)) (a1 : Int) : ∀ (m0 : Nat) (n : Nat) (ps6 : Int) (ps11 : Int) (ph22 : List (El T45)) (ph31 : List (Int)) (ph33 : List (Int)), loopN Try.prog (tab6 F10 F16 F11 F12 F13) 0 K Try.f6 la6 dq6.k 3 [m0] n (hd6_3 a0 a1 ps6 ps11 ph22 ph31 ph33) = L6_3 F10 F16 F11 F12 F13 K a0 a1 (fun q0 q1 => loopN Try.prog (tab6 F10 F16 F11 F12 F13) 0 K Try.f6 la6 dq6.k 0 [] m0 (hd6_0 a0 a1 q0 q1)) n ps6 ps11 ph22 ph31 ph33
  | m0, 0, _, _, _, _, _ => by kernel_rfl
  | m0, n + 1, ps6, ps11, ph22, ph31, ph33 => by
    have h : loopN Try.prog (tab6 F10 F16 F11 F12 F13) 0 K Try.f6 la6 dq6.k 3 [m0] (n + 1) (hd6_3 a0 a1 ps6 ps11 ph22 ph31 ph33) = b6_3 F10 F16 F11 F12 F13 K a0 a1 (fun q0 q1 => loopN Try.prog (tab6 F10 F16 F11 F12 F13) 0 K Try.f6 la6 dq6.k 0 [] m0 (hd6_0 a0 a1 q0 q1)) (fun q0 q1 q2 q3 q4 => loopN Try.prog (tab6 F10 F16 F11 F12 F13) 0 K Try.f6 la6 dq6.k 3 [m0] n (hd6_3 a0 a1 q0 q1 q2 q3 q4)) ps6 ps11 ph22 ph31 ph33 := by kernel_rfl
    rw [h]
    simp only [lp6_3 F10 F16 F11 F12 F13 K a0 a1 m0 n]
    rfl
theorem lp6_2 (F10 : (List (El T45)) → Option (Bool)) (F16 : (List (El T45)) → Option (Int)) (F11 : Option (Bool)) (F12 : (List (El T45)) → Int → Option (List (El (.int .u32)))) (F13 : (List (El T45)) → Option (List (El (.int .u32)))) (K : Nat) (a0 : List (El T45)) (a1 : Int) : ∀ (m0 m1 : Nat) (n : Nat) (ps6 : Int) (ps9 : Int) (ps10 : Int) (ph22 : List (El T45)) (ph31 : List (Int)) (ph33 : List (Int)), loopN Try.prog (tab6 F10 F16 F11 F12 F13) 0 K Try.f6 la6 dq6.k 2 [m0, m1] n (hd6_2 a0 a1 ps6 ps9 ps10 ph22 ph31 ph33) = L6_2 F10 F16 F11 F12 F13 K a0 a1 (fun q0 q1 => loopN Try.prog (tab6 F10 F16 F11 F12 F13) 0 K Try.f6 la6 dq6.k 0 [] m0 (hd6_0 a0 a1 q0 q1)) (fun q0 q1 q2 q3 q4 => loopN Try.prog (tab6 F10 F16 F11 F12 F13) 0 K Try.f6 la6 dq6.k 1 [m0] m1 (hd6_1 a0 a1 q0 q1 q2 q3 q4)) n ps6 ps9 ps10 ph22 ph31 ph33
  | m0, m1, 0, _, _, _, _, _, _ => by kernel_rfl
  | m0, m1, n + 1, ps6, ps9, ps10, ph22, ph31, ph33 => by
    have h : loopN Try.prog (tab6 F10 F16 F11 F12 F13) 0 K Try.f6 la6 dq6.k 2 [m0, m1] (n + 1) (hd6_2 a0 a1 ps6 ps9 ps10 ph22 ph31 ph33) = b6_2 F10 F16 F11 F12 F13 K a0 a1 (fun q0 q1 => loopN Try.prog (tab6 F10 F16 F11 F12 F13) 0 K Try.f6 la6 dq6.k 0 [] m0 (hd6_0 a0 a1 q0 q1)) (fun q0 q1 q2 q3 q4 => loopN Try.prog (tab6 F10 F16 F11 F12 F13) 0 K Try.f6 la6 dq6.k 1 [m0] m1 (hd6_1 a0 a1 q0 q1 q2 q3 q4)) (fun q0 q1 q2 q3 q4 q5 => loopN Try.prog (tab6 F10 F16 F11 F12 F13) 0 K Try.f6 la6 dq6.k 2 [m0, m1] n (hd6_2 a0 a1 q0 q1 q2 q3 q4 q5)) ps6 ps9 ps10 ph22 ph31 ph33 := by kernel_rfl
    rw [h]
    simp only [lp6_2 F10 F16 F11 F12 F13 K a0 a1 m0 m1 n]
    rfl
theorem lp6_1 (F10 : (List (El T45)) → Option (Bool)) (F16 : (List (El T45)) → Option (Int)) (F11 : Option (Bool)) (F12 : (List (El T45)) → Int → Option (List (El (.int .u32)))) (F13 : (List (El T45)) → Option (List (El (.int .u32)))) (K : Nat) (a0 : List (El T45)) (a1 : Int) : ∀ (m0 : Nat) (n : Nat) (ps6 : Int) (ps9 : Int) (ph22 : List (El T45)) (ph31 : List (Int)) (ph33 : List (Int)), loopN Try.prog (tab6 F10 F16 F11 F12 F13) 0 K Try.f6 la6 dq6.k 1 [m0] n (hd6_1 a0 a1 ps6 ps9 ph22 ph31 ph33) = L6_1 F10 F16 F11 F12 F13 K a0 a1 (fun q0 q1 => loopN Try.prog (tab6 F10 F16 F11 F12 F13) 0 K Try.f6 la6 dq6.k 0 [] m0 (hd6_0 a0 a1 q0 q1)) n ps6 ps9 ph22 ph31 ph33
  | m0, 0, _, _, _, _, _ => by kernel_rfl
  | m0, n + 1, ps6, ps9, ph22, ph31, ph33 => by
    have h : loopN Try.prog (tab6 F10 F16 F11 F12 F13) 0 K Try.f6 la6 dq6.k 1 [m0] (n + 1) (hd6_1 a0 a1 ps6 ps9 ph22 ph31 ph33) = b6_1 F10 F16 F11 F12 F13 K a0 a1 (fun q0 q1 => loopN Try.prog (tab6 F10 F16 F11 F12 F13) 0 K Try.f6 la6 dq6.k 0 [] m0 (hd6_0 a0 a1 q0 q1)) (fun q0 q1 q2 q3 q4 => loopN Try.prog (tab6 F10 F16 F11 F12 F13) 0 K Try.f6 la6 dq6.k 1 [m0] n (hd6_1 a0 a1 q0 q1 q2 q3 q4)) (fun k q0 q1 q2 q3 q4 q5 => loopN Try.prog (tab6 F10 F16 F11 F12 F13) 0 K Try.f6 la6 dq6.k 2 [m0, n] k (hd6_2 a0 a1 q0 q1 q2 q3 q4 q5)) (fun k q0 q1 q2 q3 q4 => loopN Try.prog (tab6 F10 F16 F11 F12 F13) 0 K Try.f6 la6 dq6.k 3 [m0] k (hd6_3 a0 a1 q0 q1 q2 q3 q4)) ps6 ps9 ph22 ph31 ph33 := by kernel_rfl
    rw [h]
    simp only [lp6_1 F10 F16 F11 F12 F13 K a0 a1 m0 n, lp6_2 F10 F16 F11 F12 F13 K a0 a1 m0 n, lp6_3 F10 F16 F11 F12 F13 K a0 a1 m0]
    rfl
theorem lp6_0 (F10 : (List (El T45)) → Option (Bool)) (F16 : (List (El T45)) → Option (Int)) (F11 : Option (Bool)) (F12 : (List (El T45)) → Int → Option (List (El (.int .u32)))) (F13 : (List (El T45)) → Option (List (El (.int .u32)))) (K : Nat) (a0 : List (El T45)) (a1 : Int) : ∀ (n : Nat) (ps6 : Int) (ph22 : List (El T45)), loopN Try.prog (tab6 F10 F16 F11 F12 F13) 0 K Try.f6 la6 dq6.k 0 [] n (hd6_0 a0 a1 ps6 ph22) = L6_0 F10 F16 F11 F12 F13 K a0 a1 n ps6 ph22
  | 0, _, _ => by kernel_rfl
  | n + 1, ps6, ph22 => by
    have h : loopN Try.prog (tab6 F10 F16 F11 F12 F13) 0 K Try.f6 la6 dq6.k 0 [] (n + 1) (hd6_0 a0 a1 ps6 ph22) = b6_0 F10 F16 F11 F12 F13 K a0 a1 (fun q0 q1 => loopN Try.prog (tab6 F10 F16 F11 F12 F13) 0 K Try.f6 la6 dq6.k 0 [] n (hd6_0 a0 a1 q0 q1)) (fun k q0 q1 q2 q3 q4 => loopN Try.prog (tab6 F10 F16 F11 F12 F13) 0 K Try.f6 la6 dq6.k 1 [n] k (hd6_1 a0 a1 q0 q1 q2 q3 q4)) ps6 ph22 := by kernel_rfl
    rw [h]
    simp only [lp6_0 F10 F16 F11 F12 F13 K a0 a1 n, lp6_1 F10 F16 F11 F12 F13 K a0 a1 n]
    rfl
theorem ev6 (F10 : (List (El T45)) → Option (Bool)) (F16 : (List (El T45)) → Option (Int)) (F11 : Option (Bool)) (F12 : (List (El T45)) → Int → Option (List (El (.int .u32)))) (F13 : (List (El T45)) → Option (List (El (.int .u32)))) (K : Nat) (a0 : List (El T45)) (a1 : Int) : evFun Try.prog (tab6 F10 F16 F11 F12 F13) 0 K Try.f6 la6 [.row T45 a0, I .i64 a1] [] dq6.k = G6 F10 F16 F11 F12 F13 K a0 a1 := by
  have h : evFun Try.prog (tab6 F10 F16 F11 F12 F13) 0 K Try.f6 la6 [.row T45 a0, I .i64 a1] [] dq6.k = t6 F10 F16 F11 F12 F13 K a0 a1 (fun k q0 q1 => loopN Try.prog (tab6 F10 F16 F11 F12 F13) 0 K Try.f6 la6 dq6.k 0 [] k (hd6_0 a0 a1 q0 q1)) := by kernel_rfl
  rw [h]
  simp only [lp6_0 F10 F16 F11 F12 F13 K a0 a1]
  rfl
noncomputable def F6 (K : Nat) (a0 : List (El T45)) (a1 : Int) : Option (Bool) := G6 (F10 K) (F16 K) (F11 K) (F12 K) (F13 K) K a0 a1
theorem cok6 (K : Nat) : CallOK Try.prog (tab6 (F10 K) (F16 K) (F11 K) (F12 K) (F13 K)) := (add_ok (add_ok (add_ok (add_ok (add_ok none_ok ent10 (ok10 K)) ent16 (ok16 K)) ent11 (ok11 K)) ent12 (ok12 K)) ent13 (ok13 K))
theorem ok6 (K : Nat) : RowOK Try.prog 6 (row ad6 dq6 fun p => F6 K p.1 p.2) := row_ok fun x r h => has_of (cok6 K) Try.func6 ((ev6 (F10 K) (F16 K) (F11 K) (F12 K) (F13 K) K x.1 x.2).trans h)
end Go.Proofs.YthebmlpohkfhbaaE
